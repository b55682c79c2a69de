/-
  What functions of the program compute, in plain Lean, and that the evaluator finds it.
-/
import Derived.Test.YtfckjjffdfkelaaGreatSuSd
import Derived.Test.YtfckjjffdfkelaaGreatNB27
import Derived.Test.YtfckjjffdfkelaaGreatNB25
import Derived.Test.YtfckjjffdfkelaaGreatNC14
set_option maxRecDepth 10000
section
namespace Su
open Go Fly
set_option linter.unusedVariables false
noncomputable section
abbrev qcM:=(Int×((List Su.Cc)×((List Su.T)×((List Su.T)×((List Su.T)×((List Su.T)×(Int×(Bool×(Bool×(Int×(Int×((List Su.Ce)×(Int×((List Su.Cc)×((List Su.T)×((List Su.T)×((List Su.T)×((List Su.T)×(Int×((List Su.Ce)×(Int×(Int×((List Su.T)×(Bool×(Bool×(Int×(Int×(Nat×((List Su.T)×(Bool×(Bool×(Int×(Int×(Nat×Unit))))))))))))))))))))))))))))))))))
def qbU:qcM→Option (qcM ⊕ (Lp qcM (Bool×(Bool×(Int×(Int×(List Su.Ce))))))):=fun p0=>(bif (decide ((p0.2.2.2.2.2.2.2.2.2.2.2.2.2.2.2.2.2.2.2.2.2.1<p0.2.2.2.2.2.2.2.2.2.2.2.2.2.2.2.2.2.2.2.2.1))) then
 ((Su.idx p0.2.2.2.2.2.2.2.2.2.2.2.2.2.2.2.2.2.2.2.1 p0.2.2.2.2.2.2.2.2.2.2.2.2.2.2.2.2.2.2.2.2.2.1)).bind fun x1 =>
 ((Su.idx p0.2.2.2.2.2.2.2.2.2.2.2.2.2.1 p0.2.2.2.2.2.2.2.2.2.2.2.2.2.2.2.2.2.2.2.2.2.1)).bind fun x2 =>
 ((Su.idx p0.2.1 p0.2.2.2.2.2.2.2.2.2.2.2.2.2.2.2.2.2.2.2.2.2.1)).bind fun x3 =>
 (bif (decide (((Su.Cc.type x3)=2))) then
 ((Su.ZN x1.8)).bind fun x4 =>
 (bif (Su.qV (Su.qz (Su.Ce.mk (Su.Ce.f x1) (Su.Ce.t x1) (Su.Jj x1.3 (x1.4,x1.5) (p0.2.2.2.2.2.2.2.2.1,(p0.2.2.2.2.2.2.2.2.2.1,p0.2.2.2.2.2.2.2.2.2.2.1))) (Su.Y5 (x1.4,x1.5) (Su.ja (Su.Jj x1.3 (x1.4,x1.5) (p0.2.2.2.2.2.2.2.2.1,(p0.2.2.2.2.2.2.2.2.2.1,p0.2.2.2.2.2.2.2.2.2.2.1))) (p0.2.2.2.2.2.2.2.2.1,(p0.2.2.2.2.2.2.2.2.2.1,p0.2.2.2.2.2.2.2.2.2.2.1)))).1 (Su.Y5 (x1.4,x1.5) (Su.ja (Su.Jj x1.3 (x1.4,x1.5) (p0.2.2.2.2.2.2.2.2.1,(p0.2.2.2.2.2.2.2.2.2.1,p0.2.2.2.2.2.2.2.2.2.2.1))) (p0.2.2.2.2.2.2.2.2.1,(p0.2.2.2.2.2.2.2.2.2.1,p0.2.2.2.2.2.2.2.2.2.2.1)))).2 (Su.JW x1.6 x4) (Su.Ce.sl x1) x1.8) (Su.Cc.type x2)) (Su.Cc.type x2)) then
 some (.inr (.ret (true,(false,((0:Int),((0:Int),[]))))))
 else
  (bif ((true&&(Nat.beq p0.2.2.2.2.2.2.2.2.2.2.2.2.2.2.2.2.2.2.2.2.2.2.2.2.2.2.2.2.2.2.2.2.2.1 (List.length p0.2.2.2.2.2.2.2.2.2.2.2.2.2.2.2.2.2.2.2.2.2.2.2.2.2.2.2.2.1)))&&(Nat.ble ((List.length p0.2.2.2.2.2.2.2.2.2.2.2.2.2.2.2.2.2.2.2.2.2.2.2.2.2.2.2.2.1)+(List.length [(Su.view 14 (Su.qz (Su.Ce.mk (Su.Ce.f x1) (Su.Ce.t x1) (Su.Jj x1.3 (x1.4,x1.5) (p0.2.2.2.2.2.2.2.2.1,(p0.2.2.2.2.2.2.2.2.2.1,p0.2.2.2.2.2.2.2.2.2.2.1))) (Su.Y5 (x1.4,x1.5) (Su.ja (Su.Jj x1.3 (x1.4,x1.5) (p0.2.2.2.2.2.2.2.2.1,(p0.2.2.2.2.2.2.2.2.2.1,p0.2.2.2.2.2.2.2.2.2.2.1))) (p0.2.2.2.2.2.2.2.2.1,(p0.2.2.2.2.2.2.2.2.2.1,p0.2.2.2.2.2.2.2.2.2.2.1)))).1 (Su.Y5 (x1.4,x1.5) (Su.ja (Su.Jj x1.3 (x1.4,x1.5) (p0.2.2.2.2.2.2.2.2.1,(p0.2.2.2.2.2.2.2.2.2.1,p0.2.2.2.2.2.2.2.2.2.2.1))) (p0.2.2.2.2.2.2.2.2.1,(p0.2.2.2.2.2.2.2.2.2.1,p0.2.2.2.2.2.2.2.2.2.2.1)))).2 (Su.JW x1.6 x4) (Su.Ce.sl x1) x1.8) (Su.Cc.type x2)))])) 549755813888)) then
  some (.inl (p0.1,(p0.2.1,(p0.2.2.1,(p0.2.2.2.1,(p0.2.2.2.2.1,(p0.2.2.2.2.2.1,(p0.2.2.2.2.2.2.1,(p0.2.2.2.2.2.2.2.1,(p0.2.2.2.2.2.2.2.2.1,(p0.2.2.2.2.2.2.2.2.2.1,(p0.2.2.2.2.2.2.2.2.2.2.1,(p0.2.2.2.2.2.2.2.2.2.2.2.1,(p0.2.2.2.2.2.2.2.2.2.2.2.2.1,(p0.2.2.2.2.2.2.2.2.2.2.2.2.2.1,(p0.2.2.2.2.2.2.2.2.2.2.2.2.2.2.1,(p0.2.2.2.2.2.2.2.2.2.2.2.2.2.2.2.1,(p0.2.2.2.2.2.2.2.2.2.2.2.2.2.2.2.2.1,(p0.2.2.2.2.2.2.2.2.2.2.2.2.2.2.2.2.2.1,(p0.2.2.2.2.2.2.2.2.2.2.2.2.2.2.2.2.2.2.1,(p0.2.2.2.2.2.2.2.2.2.2.2.2.2.2.2.2.2.2.2.1,(p0.2.2.2.2.2.2.2.2.2.2.2.2.2.2.2.2.2.2.2.2.1,((Go.IntKind.wrap .i64 (p0.2.2.2.2.2.2.2.2.2.2.2.2.2.2.2.2.2.2.2.2.2.1+1)),(p0.2.2.2.2.2.2.2.2.2.2.2.2.2.2.2.2.2.2.2.2.2.2.1,(p0.2.2.2.2.2.2.2.2.2.2.2.2.2.2.2.2.2.2.2.2.2.2.2.1,(p0.2.2.2.2.2.2.2.2.2.2.2.2.2.2.2.2.2.2.2.2.2.2.2.2.1,(p0.2.2.2.2.2.2.2.2.2.2.2.2.2.2.2.2.2.2.2.2.2.2.2.2.2.1,(p0.2.2.2.2.2.2.2.2.2.2.2.2.2.2.2.2.2.2.2.2.2.2.2.2.2.2.1,(p0.2.2.2.2.2.2.2.2.2.2.2.2.2.2.2.2.2.2.2.2.2.2.2.2.2.2.2.1,((p0.2.2.2.2.2.2.2.2.2.2.2.2.2.2.2.2.2.2.2.2.2.2.2.2.2.2.2.2.1++[(Su.view 14 (Su.qz (Su.Ce.mk (Su.Ce.f x1) (Su.Ce.t x1) (Su.Jj x1.3 (x1.4,x1.5) (p0.2.2.2.2.2.2.2.2.1,(p0.2.2.2.2.2.2.2.2.2.1,p0.2.2.2.2.2.2.2.2.2.2.1))) (Su.Y5 (x1.4,x1.5) (Su.ja (Su.Jj x1.3 (x1.4,x1.5) (p0.2.2.2.2.2.2.2.2.1,(p0.2.2.2.2.2.2.2.2.2.1,p0.2.2.2.2.2.2.2.2.2.2.1))) (p0.2.2.2.2.2.2.2.2.1,(p0.2.2.2.2.2.2.2.2.2.1,p0.2.2.2.2.2.2.2.2.2.2.1)))).1 (Su.Y5 (x1.4,x1.5) (Su.ja (Su.Jj x1.3 (x1.4,x1.5) (p0.2.2.2.2.2.2.2.2.1,(p0.2.2.2.2.2.2.2.2.2.1,p0.2.2.2.2.2.2.2.2.2.2.1))) (p0.2.2.2.2.2.2.2.2.1,(p0.2.2.2.2.2.2.2.2.2.1,p0.2.2.2.2.2.2.2.2.2.2.1)))).2 (Su.JW x1.6 x4) (Su.Ce.sl x1) x1.8) (Su.Cc.type x2)))]),(p0.2.2.2.2.2.2.2.2.2.2.2.2.2.2.2.2.2.2.2.2.2.2.2.2.2.2.2.2.2.1,(p0.2.2.2.2.2.2.2.2.2.2.2.2.2.2.2.2.2.2.2.2.2.2.2.2.2.2.2.2.2.2.1,(p0.2.2.2.2.2.2.2.2.2.2.2.2.2.2.2.2.2.2.2.2.2.2.2.2.2.2.2.2.2.2.2.1,(p0.2.2.2.2.2.2.2.2.2.2.2.2.2.2.2.2.2.2.2.2.2.2.2.2.2.2.2.2.2.2.2.2.1,((List.length (p0.2.2.2.2.2.2.2.2.2.2.2.2.2.2.2.2.2.2.2.2.2.2.2.2.2.2.2.2.1++[(Su.view 14 (Su.qz (Su.Ce.mk (Su.Ce.f x1) (Su.Ce.t x1) (Su.Jj x1.3 (x1.4,x1.5) (p0.2.2.2.2.2.2.2.2.1,(p0.2.2.2.2.2.2.2.2.2.1,p0.2.2.2.2.2.2.2.2.2.2.1))) (Su.Y5 (x1.4,x1.5) (Su.ja (Su.Jj x1.3 (x1.4,x1.5) (p0.2.2.2.2.2.2.2.2.1,(p0.2.2.2.2.2.2.2.2.2.1,p0.2.2.2.2.2.2.2.2.2.2.1))) (p0.2.2.2.2.2.2.2.2.1,(p0.2.2.2.2.2.2.2.2.2.1,p0.2.2.2.2.2.2.2.2.2.2.1)))).1 (Su.Y5 (x1.4,x1.5) (Su.ja (Su.Jj x1.3 (x1.4,x1.5) (p0.2.2.2.2.2.2.2.2.1,(p0.2.2.2.2.2.2.2.2.2.1,p0.2.2.2.2.2.2.2.2.2.2.1))) (p0.2.2.2.2.2.2.2.2.1,(p0.2.2.2.2.2.2.2.2.2.1,p0.2.2.2.2.2.2.2.2.2.2.1)))).2 (Su.JW x1.6 x4) (Su.Ce.sl x1) x1.8) (Su.Cc.type x2)))])),())))))))))))))))))))))))))))))))))))
 else
  none))
 else
  ((Su.ZN x1.8)).bind fun x5 =>
  (bif (Su.qV (Su.qz (Su.Ce.mk (Su.Ce.f x1) (Su.Ce.t x1) x1.3 x1.4 x1.5 (Su.JW x1.6 x5) (Su.Ce.sl x1) x1.8) (Su.Cc.type x2)) (Su.Cc.type x2)) then
  some (.inr (.ret (true,(false,((0:Int),((0:Int),[]))))))
 else
  (bif ((true&&(Nat.beq p0.2.2.2.2.2.2.2.2.2.2.2.2.2.2.2.2.2.2.2.2.2.2.2.2.2.2.2.2.2.2.2.2.2.1 (List.length p0.2.2.2.2.2.2.2.2.2.2.2.2.2.2.2.2.2.2.2.2.2.2.2.2.2.2.2.2.1)))&&(Nat.ble ((List.length p0.2.2.2.2.2.2.2.2.2.2.2.2.2.2.2.2.2.2.2.2.2.2.2.2.2.2.2.2.1)+(List.length [(Su.view 14 (Su.qz (Su.Ce.mk (Su.Ce.f x1) (Su.Ce.t x1) x1.3 x1.4 x1.5 (Su.JW x1.6 x5) (Su.Ce.sl x1) x1.8) (Su.Cc.type x2)))])) 549755813888)) then
  some (.inl (p0.1,(p0.2.1,(p0.2.2.1,(p0.2.2.2.1,(p0.2.2.2.2.1,(p0.2.2.2.2.2.1,(p0.2.2.2.2.2.2.1,(p0.2.2.2.2.2.2.2.1,(p0.2.2.2.2.2.2.2.2.1,(p0.2.2.2.2.2.2.2.2.2.1,(p0.2.2.2.2.2.2.2.2.2.2.1,(p0.2.2.2.2.2.2.2.2.2.2.2.1,(p0.2.2.2.2.2.2.2.2.2.2.2.2.1,(p0.2.2.2.2.2.2.2.2.2.2.2.2.2.1,(p0.2.2.2.2.2.2.2.2.2.2.2.2.2.2.1,(p0.2.2.2.2.2.2.2.2.2.2.2.2.2.2.2.1,(p0.2.2.2.2.2.2.2.2.2.2.2.2.2.2.2.2.1,(p0.2.2.2.2.2.2.2.2.2.2.2.2.2.2.2.2.2.1,(p0.2.2.2.2.2.2.2.2.2.2.2.2.2.2.2.2.2.2.1,(p0.2.2.2.2.2.2.2.2.2.2.2.2.2.2.2.2.2.2.2.1,(p0.2.2.2.2.2.2.2.2.2.2.2.2.2.2.2.2.2.2.2.2.1,((Go.IntKind.wrap .i64 (p0.2.2.2.2.2.2.2.2.2.2.2.2.2.2.2.2.2.2.2.2.2.1+1)),(p0.2.2.2.2.2.2.2.2.2.2.2.2.2.2.2.2.2.2.2.2.2.2.1,(p0.2.2.2.2.2.2.2.2.2.2.2.2.2.2.2.2.2.2.2.2.2.2.2.1,(p0.2.2.2.2.2.2.2.2.2.2.2.2.2.2.2.2.2.2.2.2.2.2.2.2.1,(p0.2.2.2.2.2.2.2.2.2.2.2.2.2.2.2.2.2.2.2.2.2.2.2.2.2.1,(p0.2.2.2.2.2.2.2.2.2.2.2.2.2.2.2.2.2.2.2.2.2.2.2.2.2.2.1,(p0.2.2.2.2.2.2.2.2.2.2.2.2.2.2.2.2.2.2.2.2.2.2.2.2.2.2.2.1,((p0.2.2.2.2.2.2.2.2.2.2.2.2.2.2.2.2.2.2.2.2.2.2.2.2.2.2.2.2.1++[(Su.view 14 (Su.qz (Su.Ce.mk (Su.Ce.f x1) (Su.Ce.t x1) x1.3 x1.4 x1.5 (Su.JW x1.6 x5) (Su.Ce.sl x1) x1.8) (Su.Cc.type x2)))]),(p0.2.2.2.2.2.2.2.2.2.2.2.2.2.2.2.2.2.2.2.2.2.2.2.2.2.2.2.2.2.1,(p0.2.2.2.2.2.2.2.2.2.2.2.2.2.2.2.2.2.2.2.2.2.2.2.2.2.2.2.2.2.2.1,(p0.2.2.2.2.2.2.2.2.2.2.2.2.2.2.2.2.2.2.2.2.2.2.2.2.2.2.2.2.2.2.2.1,(p0.2.2.2.2.2.2.2.2.2.2.2.2.2.2.2.2.2.2.2.2.2.2.2.2.2.2.2.2.2.2.2.2.1,((List.length (p0.2.2.2.2.2.2.2.2.2.2.2.2.2.2.2.2.2.2.2.2.2.2.2.2.2.2.2.2.1++[(Su.view 14 (Su.qz (Su.Ce.mk (Su.Ce.f x1) (Su.Ce.t x1) x1.3 x1.4 x1.5 (Su.JW x1.6 x5) (Su.Ce.sl x1) x1.8) (Su.Cc.type x2)))])),())))))))))))))))))))))))))))))))))))
 else
  none)))
 else
  some (.inr (.exit 0 (p0.1,(p0.2.1,(p0.2.2.1,(p0.2.2.2.1,(p0.2.2.2.2.1,(p0.2.2.2.2.2.1,(p0.2.2.2.2.2.2.1,(p0.2.2.2.2.2.2.2.1,(p0.2.2.2.2.2.2.2.2.1,(p0.2.2.2.2.2.2.2.2.2.1,(p0.2.2.2.2.2.2.2.2.2.2.1,(p0.2.2.2.2.2.2.2.2.2.2.2.1,(p0.2.2.2.2.2.2.2.2.2.2.2.2.1,(p0.2.2.2.2.2.2.2.2.2.2.2.2.2.1,(p0.2.2.2.2.2.2.2.2.2.2.2.2.2.2.1,(p0.2.2.2.2.2.2.2.2.2.2.2.2.2.2.2.1,(p0.2.2.2.2.2.2.2.2.2.2.2.2.2.2.2.2.1,(p0.2.2.2.2.2.2.2.2.2.2.2.2.2.2.2.2.2.1,(p0.2.2.2.2.2.2.2.2.2.2.2.2.2.2.2.2.2.2.1,(p0.2.2.2.2.2.2.2.2.2.2.2.2.2.2.2.2.2.2.2.1,(p0.2.2.2.2.2.2.2.2.2.2.2.2.2.2.2.2.2.2.2.2.1,(p0.2.2.2.2.2.2.2.2.2.2.2.2.2.2.2.2.2.2.2.2.2.1,(p0.2.2.2.2.2.2.2.2.2.2.2.2.2.2.2.2.2.2.2.2.2.2.1,(p0.2.2.2.2.2.2.2.2.2.2.2.2.2.2.2.2.2.2.2.2.2.2.2.1,(p0.2.2.2.2.2.2.2.2.2.2.2.2.2.2.2.2.2.2.2.2.2.2.2.2.1,(p0.2.2.2.2.2.2.2.2.2.2.2.2.2.2.2.2.2.2.2.2.2.2.2.2.2.1,(p0.2.2.2.2.2.2.2.2.2.2.2.2.2.2.2.2.2.2.2.2.2.2.2.2.2.2.1,(p0.2.2.2.2.2.2.2.2.2.2.2.2.2.2.2.2.2.2.2.2.2.2.2.2.2.2.2.1,(p0.2.2.2.2.2.2.2.2.2.2.2.2.2.2.2.2.2.2.2.2.2.2.2.2.2.2.2.2.1,(p0.2.2.2.2.2.2.2.2.2.2.2.2.2.2.2.2.2.2.2.2.2.2.2.2.2.2.2.2.2.1,(p0.2.2.2.2.2.2.2.2.2.2.2.2.2.2.2.2.2.2.2.2.2.2.2.2.2.2.2.2.2.2.1,(p0.2.2.2.2.2.2.2.2.2.2.2.2.2.2.2.2.2.2.2.2.2.2.2.2.2.2.2.2.2.2.2.1,(p0.2.2.2.2.2.2.2.2.2.2.2.2.2.2.2.2.2.2.2.2.2.2.2.2.2.2.2.2.2.2.2.2.1,(p0.2.2.2.2.2.2.2.2.2.2.2.2.2.2.2.2.2.2.2.2.2.2.2.2.2.2.2.2.2.2.2.2.2.1,())))))))))))))))))))))))))))))))))))))
def qyV  (fu:Nat) (c:(Int×((List Su.Cc)×((List Su.T)×((List Su.T)×((List Su.T)×((List Su.T)×Int))))))) (s:(Bool×(Bool×(Int×(Int×(List Su.Ce)))))):Option (Bool×(Bool×(Int×(Int×(List Su.Ce))))) :=
 (bif s.1 then
 some (true,(false,((0:Int),((0:Int),[]))))
 else
  (bif (!(decide (((((List.length s.2.2.2.2):Nat):Int)=(((List.length c.2.1):Nat):Int))))) then
  some (true,(false,((0:Int),((0:Int),[]))))
 else
  (bif (Su.qK [(s.2.1,(s.2.2.1,s.2.2.2.1))]).1 then
  some (true,(false,((0:Int),((0:Int),[]))))
 else
  (itP fu (qbU) (c.1,(c.2.1,(c.2.2.1,(c.2.2.2.1,(c.2.2.2.2.1,(c.2.2.2.2.2.1,(c.2.2.2.2.2.2,(s.1,(s.2.1,(s.2.2.1,(s.2.2.2.1,(s.2.2.2.2,(c.1,(c.2.1,(c.2.2.1,(c.2.2.2.1,(c.2.2.2.2.1,(c.2.2.2.2.2.1,(c.2.2.2.2.2.2,(s.2.2.2.2,((((List.length s.2.2.2.2):Nat):Int),((0:Int),([],(false,(false,((0:Int),((0:Int),(0,([],(false,((Su.qK [(s.2.1,(s.2.2.1,s.2.2.2.1))]).1,((Su.qK [(s.2.1,(s.2.2.1,s.2.2.2.1))]).2.1,((Su.qK [(s.2.1,(s.2.2.1,s.2.2.2.1))]).2.2,(0,()))))))))))))))))))))))))))))))))))).bind fun x6 =>
  (match x6 with
 | .exit i7 p8=>(bif (Nat.beq i7 0) then
  ((Su.sub p8.2.2.2.2.2.2.2.2.2.2.2.2.2.2.2.2.2.2.2.2.2.2.2.2.2.2.2.2.1 0 p8.2.2.2.2.2.2.2.2.2.2.2.2.2.2.2.2.2.2.2.2.2.2.2.2.2.2.2.2.2.2.2.2.2.1)).bind fun x9 =>
  (((((Su.unR (Su.rCe) x9)).bind fun x10 =>
  some (p8.2.2.2.2.2.2.2.2.2.2.2.2.2.2.2.2.2.2.2.2.2.2.2.2.2.2.2.2.2.2.2.2.1,x10)).bind fun x11 =>
  some (p8.2.2.2.2.2.2.2.2.2.2.2.2.2.2.2.2.2.2.2.2.2.2.2.2.2.2.2.2.2.2.2.1,x11)).bind fun x12 =>
  some (p8.2.2.2.2.2.2.2.2.2.2.2.2.2.2.2.2.2.2.2.2.2.2.2.2.2.2.2.2.2.2.1,x12)).bind fun x13 =>
  some (p8.2.2.2.2.2.2.2.2.2.2.2.2.2.2.2.2.2.2.2.2.2.2.2.2.2.2.2.2.2.1,x13)
 else
  none)
 | .ret o14=>some o14))))
def qp6 (s:StD) (x:Su.Ce):Iv:=Jj x.i (x.d,x.p) (stK s)
def qfL (s:StD) (x:Su.Ce):Ckp:=Y5 (x.d,x.p) (ja (qp6 s x) (stK s))
def qdC (s:StD) (_:Nat) (d:Su.Cc) (x:Su.Ce):Su.Ce :=
 bif decide (d.type=2) then ⟨x.f,x.t,qp6 s x,(qfL s x).1,(qfL s x).2,JW x.s (JT x.fm),x.sl,x.fm⟩
 else ⟨x.f,x.t,x.i,x.d,x.p,JW x.s (JT x.fm),x.sl,x.fm⟩
theorem qun {s:StD} (h:smS s=true) {x:Su.Ce} (hx:x∈s.2.2.2.2):ZN x.fm=some (JT x.fm):=by
 unfold smS at h
 rw [Bool.and_eq_true] at h
 have:=Nat.le_of_ble_eq_true (List.all_eq_true.1 h.2 x hx)
 unfold ZN qgI
 rw [Nat.ble_eq_true_of_le (by omega),cond_true]
theorem qyW (c:CoD) (s:StD) (K:Iv) (hl:s.2.2.2.2.length=c.2.1.length) (hs:s.2.2.2.2.length≤1000000) (hm:smS s=true) :
 jD (c.2.1.length+1) qbU (Yy c s K ((0:Nat):Int) []) (qiu (.ret jZ) (fun P=>.exit 0 (Yy c s K (c.2.1.length:Int) P)) (je (jG c.2.1 s.2.2.2.2 (qdC s)) c.2.1.length)):=by
 have hmx:s.2.2.2.2.length≤maxLen:=by rw [qI];omega
 refine Q4 (mk:=fun i P=>Yy c s K (i:Int) P) ?_ ?_ ?_
 · intro i P x hi hP ho
   have i1:i<s.2.2.2.2.length:=by omega
   unfold jG at ho
   rw [List.getElem?_eq_getElem hi,List.getElem?_eq_getElem i1] at ho
   simp only [] at ho
   have hb:Nat.ble (P.length+1) 549755813888=true:=Nat.ble_eq_true_of_le (by omega)
   have hsp:=qun hm (List.getElem_mem i1)
   unfold Yy
   simp only [qbU,ltN,decide_eq_true i1,cond_true,ixl i1,ixl hi,Option.bind_some]
   generalize c.2.1[i]=d at *
   generalize s.2.2.2.2[i]=x0 at *
   by_cases t1:d.type=2
   · have e1:=decide_eq_true t1
     have hf:(qdC s) i d x0=⟨x0.f,x0.t,qp6 s x0,(qfL s x0).1,(qfL s x0).2,JW x0.s (JT x0.fm),x0.sl,x0.fm⟩:=by unfold qdC;rw [e1];rfl
     rw [hf] at ho
     refine (qp e1).trans ((obB hsp rfl).trans ?_)
     rcases Bool.eq_false_or_eq_true (qV (qz (⟨x0.f,x0.t,qp6 s x0,(qfL s x0).1,(qfL s x0).2,JW x0.s (JT x0.fm),x0.sl,x0.fm⟩) d.type) d.type) with hn | hn
     · exact absurd ((qp hn).symm.trans ho) (by simp)
     · have:=soi ((qt hn).symm.trans ho);subst this
       refine (qt hn).trans ?_
       simp only [List.length_map,List.length_cons,List.length_nil,Nat.zero_add,Z4,hb,Bool.and_self,cond_true,yZ,w1 i1 hmx]
       all_goals rfl
   · have e1:=decide_eq_false t1
     have hf:(qdC s) i d x0=⟨x0.f,x0.t,x0.i,x0.d,x0.p,JW x0.s (JT x0.fm),x0.sl,x0.fm⟩:=by unfold qdC;rw [e1];rfl
     rw [hf] at ho
     refine (qt e1).trans ((obB hsp rfl).trans ?_)
     rcases Bool.eq_false_or_eq_true (qV (qz (⟨x0.f,x0.t,x0.i,x0.d,x0.p,JW x0.s (JT x0.fm),x0.sl,x0.fm⟩) d.type) d.type) with hn | hn
     · exact absurd ((qp hn).symm.trans ho) (by simp)
     · have:=soi ((qt hn).symm.trans ho);subst this
       refine (qt hn).trans ?_
       simp only [List.length_map,List.length_cons,List.length_nil,Nat.zero_add,Z4,hb,Bool.and_self,cond_true,yZ,w1 i1 hmx]
       all_goals rfl
 · intro i P hi hP ho
   have i1:i<s.2.2.2.2.length:=by omega
   unfold jG at ho
   rw [List.getElem?_eq_getElem hi,List.getElem?_eq_getElem i1] at ho
   simp only [] at ho
   have hb:Nat.ble (P.length+1) 549755813888=true:=Nat.ble_eq_true_of_le (by omega)
   have hsp:=qun hm (List.getElem_mem i1)
   unfold Yy
   simp only [qbU,ltN,decide_eq_true i1,cond_true,ixl i1,ixl hi,Option.bind_some]
   generalize c.2.1[i]=d at *
   generalize s.2.2.2.2[i]=x0 at *
   by_cases t1:d.type=2
   · have e1:=decide_eq_true t1
     have hf:(qdC s) i d x0=⟨x0.f,x0.t,qp6 s x0,(qfL s x0).1,(qfL s x0).2,JW x0.s (JT x0.fm),x0.sl,x0.fm⟩:=by unfold qdC;rw [e1];rfl
     rw [hf] at ho
     refine (qp e1).trans ((obB hsp rfl).trans ?_)
     rcases Bool.eq_false_or_eq_true (qV (qz (⟨x0.f,x0.t,qp6 s x0,(qfL s x0).1,(qfL s x0).2,JW x0.s (JT x0.fm),x0.sl,x0.fm⟩) d.type) d.type) with hn | hn
     · exact (qp hn).trans rfl
     · exact absurd ((qt hn).symm.trans ho) (by simp)
   · have e1:=decide_eq_false t1
     have hf:(qdC s) i d x0=⟨x0.f,x0.t,x0.i,x0.d,x0.p,JW x0.s (JT x0.fm),x0.sl,x0.fm⟩:=by unfold qdC;rw [e1];rfl
     rw [hf] at ho
     refine (qt e1).trans ((obB hsp rfl).trans ?_)
     rcases Bool.eq_false_or_eq_true (qV (qz (⟨x0.f,x0.t,x0.i,x0.d,x0.p,JW x0.s (JT x0.fm),x0.sl,x0.fm⟩) d.type) d.type) with hn | hn
     · exact (qp hn).trans rfl
     · exact absurd ((qt hn).symm.trans ho) (by simp)
 · intro P hP
   unfold Yy
   simp only [qbU,ltN,hl,decide_eq_false (Nat.lt_irrefl _),cond_false]
def qmu (c:CoD) (s:StD):StD:=j0 c s (qdC s)
def qfr (p:CoD×StD):Option StD:=bif smS p.2 then some (qmu p.1 p.2) else none
theorem qyX (p:CoD×StD) (y:StD) (hg:(dc cCo (d1 cSt)).good p) (h:qfr p=some y):∃ n,qyV n p.1 p.2=some y:=by
 obtain ⟨c,s⟩:=p
 obtain ⟨hm,h⟩:=qj h
 have:=soi h;subst this
 have hm:smS s=true:=hm
 refine ⟨c.2.1.length+1,?_⟩
 show qyV (c.2.1.length+1) c s=some (qmu c s)
 unfold qyV qmu
 rcases Bool.eq_false_or_eq_true s.1 with hd | hd
 · rw [show j0 c s _=jZ from qp hd];exact qp hd
 · refine (qt hd).trans ?_
   by_cases hl:s.2.2.2.2.length=c.2.1.length
   · refine (qt (by rw [lnE,decide_eq_true hl];rfl)).trans ?_
     rcases Bool.eq_false_or_eq_true (qK [stK s]).1 with hK | hK
     · rw [show j0 c s _=jZ from (qt hd).trans ((qt (by rw [decide_eq_true hl];rfl)).trans (qp hK))]
       exact qp hK
     · refine (qt hK).trans ?_
       rw [QA _ hd hl hK]
       have hr:=qyW c s (qK [stK s]) hl (qbQ hm) hm _ (Nat.le_refl _)
       refine obB hr ?_
       cases hb:je (jG c.2.1 s.2.2.2.2 (qdC s)) c.2.1.length with
       | none=>rfl
       | some P=>exact obB (qbR P) (quj P (qK [stK s]) false)
   · rw [show j0 c s _=jZ from (qt hd).trans (qp (by rw [decide_eq_false hl];rfl))]
     exact qp (by rw [lnE,decide_eq_false hl];rfl)
end
end Su
end
section
namespace Su
open Go Fly
set_option linter.unusedVariables false
noncomputable section
abbrev Zd:=(Int×((List Su.Cc)×((List Su.T)×((List Su.T)×((List Su.T)×((List Su.T)×(Int×((List Su.Ce)×(Int×(Int×((List Su.T)×(Bool×(Bool×(Int×(Int×(Nat×((List Su.T)×(Bool×(Bool×(Int×(Int×(Nat×Unit))))))))))))))))))))))
def J0:Zd→Option (Zd ⊕ (Lp Zd (Bool×(Bool×(Int×(Int×(List Su.Ce))))))):=fun p1=>(bif (decide ((p1.2.2.2.2.2.2.2.2.2.1<p1.2.2.2.2.2.2.2.2.1))) then
 ((Su.idx p1.2.2.2.2.2.2.2.1 p1.2.2.2.2.2.2.2.2.2.1)).bind fun x2 =>
 ((Su.idx p1.2.1 p1.2.2.2.2.2.2.2.2.2.1)).bind fun x3 =>
 (bif (Su.qV (Su.qz (Su.Ce.mk (Su.Ce.f x2) (Su.Ce.t x2) x2.3 x2.4 x2.5 x2.6 (Su.Ce.sl x2) (true,((0:Int),([],(0:Int))))) (Su.Cc.type x3)) (Su.Cc.type x3)) then
 some (.inr (.ret (true,(false,((0:Int),((0:Int),[]))))))
 else
  (bif ((true&&(Nat.beq p1.2.2.2.2.2.2.2.2.2.2.2.2.2.2.2.2.2.2.2.2.2.1 (List.length p1.2.2.2.2.2.2.2.2.2.2.2.2.2.2.2.2.1)))&&(Nat.ble ((List.length p1.2.2.2.2.2.2.2.2.2.2.2.2.2.2.2.2.1)+(List.length [(Su.view 14 (Su.qz (Su.Ce.mk (Su.Ce.f x2) (Su.Ce.t x2) x2.3 x2.4 x2.5 x2.6 (Su.Ce.sl x2) (true,((0:Int),([],(0:Int))))) (Su.Cc.type x3)))])) 549755813888)) then
  some (.inl (p1.1,(p1.2.1,(p1.2.2.1,(p1.2.2.2.1,(p1.2.2.2.2.1,(p1.2.2.2.2.2.1,(p1.2.2.2.2.2.2.1,(p1.2.2.2.2.2.2.2.1,(p1.2.2.2.2.2.2.2.2.1,((Go.IntKind.wrap .i64 (p1.2.2.2.2.2.2.2.2.2.1+1)),(p1.2.2.2.2.2.2.2.2.2.2.1,(p1.2.2.2.2.2.2.2.2.2.2.2.1,(p1.2.2.2.2.2.2.2.2.2.2.2.2.1,(p1.2.2.2.2.2.2.2.2.2.2.2.2.2.1,(p1.2.2.2.2.2.2.2.2.2.2.2.2.2.2.1,(p1.2.2.2.2.2.2.2.2.2.2.2.2.2.2.2.1,((p1.2.2.2.2.2.2.2.2.2.2.2.2.2.2.2.2.1++[(Su.view 14 (Su.qz (Su.Ce.mk (Su.Ce.f x2) (Su.Ce.t x2) x2.3 x2.4 x2.5 x2.6 (Su.Ce.sl x2) (true,((0:Int),([],(0:Int))))) (Su.Cc.type x3)))]),(p1.2.2.2.2.2.2.2.2.2.2.2.2.2.2.2.2.2.1,(p1.2.2.2.2.2.2.2.2.2.2.2.2.2.2.2.2.2.2.1,(p1.2.2.2.2.2.2.2.2.2.2.2.2.2.2.2.2.2.2.2.1,(p1.2.2.2.2.2.2.2.2.2.2.2.2.2.2.2.2.2.2.2.2.1,((List.length (p1.2.2.2.2.2.2.2.2.2.2.2.2.2.2.2.2.1++[(Su.view 14 (Su.qz (Su.Ce.mk (Su.Ce.f x2) (Su.Ce.t x2) x2.3 x2.4 x2.5 x2.6 (Su.Ce.sl x2) (true,((0:Int),([],(0:Int))))) (Su.Cc.type x3)))])),())))))))))))))))))))))))
 else
  none))
 else
  some (.inr (.exit 0 (p1.1,(p1.2.1,(p1.2.2.1,(p1.2.2.2.1,(p1.2.2.2.2.1,(p1.2.2.2.2.2.1,(p1.2.2.2.2.2.2.1,(p1.2.2.2.2.2.2.2.1,(p1.2.2.2.2.2.2.2.2.1,(p1.2.2.2.2.2.2.2.2.2.1,(p1.2.2.2.2.2.2.2.2.2.2.1,(p1.2.2.2.2.2.2.2.2.2.2.2.1,(p1.2.2.2.2.2.2.2.2.2.2.2.2.1,(p1.2.2.2.2.2.2.2.2.2.2.2.2.2.1,(p1.2.2.2.2.2.2.2.2.2.2.2.2.2.2.1,(p1.2.2.2.2.2.2.2.2.2.2.2.2.2.2.2.1,(p1.2.2.2.2.2.2.2.2.2.2.2.2.2.2.2.2.1,(p1.2.2.2.2.2.2.2.2.2.2.2.2.2.2.2.2.2.1,(p1.2.2.2.2.2.2.2.2.2.2.2.2.2.2.2.2.2.2.1,(p1.2.2.2.2.2.2.2.2.2.2.2.2.2.2.2.2.2.2.2.1,(p1.2.2.2.2.2.2.2.2.2.2.2.2.2.2.2.2.2.2.2.2.1,(p1.2.2.2.2.2.2.2.2.2.2.2.2.2.2.2.2.2.2.2.2.2.1,())))))))))))))))))))))))))
def qiv  (fu:Nat) (c:(Int×((List Su.Cc)×((List Su.T)×((List Su.T)×((List Su.T)×((List Su.T)×Int))))))) (s:(Bool×(Bool×(Int×(Int×(List Su.Ce)))))):Option (Bool×(Bool×(Int×(Int×(List Su.Ce))))) :=
 ((Su.qfr (c,s))).bind fun x0 =>
 (bif x0.1 then
 some (true,(false,((0:Int),((0:Int),[]))))
 else
  (bif (!(decide (((((List.length x0.2.2.2.2):Nat):Int)=(((List.length c.2.1):Nat):Int))))) then
  some (true,(false,((0:Int),((0:Int),[]))))
 else
  (bif (Su.qK [(x0.2.1,(x0.2.2.1,x0.2.2.2.1))]).1 then
  some (true,(false,((0:Int),((0:Int),[]))))
 else
  (itP fu (J0) (c.1,(c.2.1,(c.2.2.1,(c.2.2.2.1,(c.2.2.2.2.1,(c.2.2.2.2.2.1,(c.2.2.2.2.2.2,(x0.2.2.2.2,((((List.length x0.2.2.2.2):Nat):Int),((0:Int),([],(false,(false,((0:Int),((0:Int),(0,([],(false,((Su.qK [(x0.2.1,(x0.2.2.1,x0.2.2.2.1))]).1,((Su.qK [(x0.2.1,(x0.2.2.1,x0.2.2.2.1))]).2.1,((Su.qK [(x0.2.1,(x0.2.2.1,x0.2.2.2.1))]).2.2,(0,()))))))))))))))))))))))).bind fun x4 =>
  (match x4 with
 | .exit i5 p6=>(bif (Nat.beq i5 0) then
  ((Su.sub p6.2.2.2.2.2.2.2.2.2.2.2.2.2.2.2.2.1 0 p6.2.2.2.2.2.2.2.2.2.2.2.2.2.2.2.2.2.2.2.2.2.1)).bind fun x7 =>
  (((((Su.unR (Su.rCe) x7)).bind fun x8 =>
  some (p6.2.2.2.2.2.2.2.2.2.2.2.2.2.2.2.2.2.2.2.2.1,x8)).bind fun x9 =>
  some (p6.2.2.2.2.2.2.2.2.2.2.2.2.2.2.2.2.2.2.2.1,x9)).bind fun x10 =>
  some (p6.2.2.2.2.2.2.2.2.2.2.2.2.2.2.2.2.2.2.1,x10)).bind fun x11 =>
  some (p6.2.2.2.2.2.2.2.2.2.2.2.2.2.2.2.2.2.1,x11)
 else
  none)
 | .ret o12=>some o12))))
def qkJ:Bool×Int×List Su.Tm×Int:=(true,(0,([],0)))
def qfs (_:Nat) (_:Su.Cc) (x:Su.Ce):Su.Ce:=⟨x.f,x.t,x.i,x.d,x.p,x.s,x.sl,qkJ⟩
theorem qkK {c:CoD} {s:StD} {f:Nat→Su.Cc→Su.Ce→Su.Ce}:(j0 c s f).2.2.2.2.length≤s.2.2.2.2.length:=by
 unfold j0
 rcases Bool.eq_false_or_eq_true s.1 with hd | hd
 · rw [qp hd];exact Nat.zero_le _
 · rw [qt hd]
   by_cases hl:s.2.2.2.2.length=c.2.1.length
   · rw [qt (by rw [decide_eq_true hl];rfl)]
     rcases Bool.eq_false_or_eq_true (qK [stK s]).1 with hK | hK
     · rw [qp hK];exact Nat.zero_le _
     · rw [qt hK]
       cases hb:je (jG c.2.1 s.2.2.2.2 f) c.2.1.length with
       | none=>exact Nat.zero_le _
       | some P=>show P.length≤_;rw [yj hb,hl];exact Nat.le_refl _
   · rw [qp (by rw [decide_eq_false hl];rfl)];exact Nat.zero_le _
theorem qp7 (c:CoD) (s:StD) (K:Iv) (hl:s.2.2.2.2.length=c.2.1.length) (hs:s.2.2.2.2.length≤1000000) :
 jD (c.2.1.length+1) J0 (qdB c s K ((0:Nat):Int) []) (qiu (.ret jZ) (fun P=>.exit 0 (qdB c s K (c.2.1.length:Int) P)) (je (jG c.2.1 s.2.2.2.2 (qfs)) c.2.1.length)):=by
 have hmx:s.2.2.2.2.length≤maxLen:=by rw [qI];omega
 refine Q4 (mk:=fun i P=>qdB c s K (i:Int) P) ?_ ?_ ?_
 · intro i P x hi hP ho
   have i1:i<s.2.2.2.2.length:=by omega
   unfold jG at ho
   rw [List.getElem?_eq_getElem hi,List.getElem?_eq_getElem i1] at ho
   simp only [] at ho
   have hb:Nat.ble (P.length+1) 549755813888=true:=Nat.ble_eq_true_of_le (by omega)
   unfold qdB
   simp only [J0,ltN,decide_eq_true i1,cond_true,ixl i1,ixl hi,Option.bind_some]
   generalize c.2.1[i]=d at *
   generalize s.2.2.2.2[i]=x0 at *
   have hf:qfs i d x0=⟨x0.f,x0.t,x0.i,x0.d,x0.p,x0.s,x0.sl,qkJ⟩:=by rfl
   rw [hf] at ho
   rcases Bool.eq_false_or_eq_true (qV (qz (⟨x0.f,x0.t,x0.i,x0.d,x0.p,x0.s,x0.sl,qkJ⟩) d.type) d.type) with hn | hn
   · exact absurd ((qp hn).symm.trans ho) (by simp)
   · have:=soi ((qt hn).symm.trans ho);subst this
     refine (qt hn).trans ?_
     simp only [List.length_map,List.length_cons,List.length_nil,Nat.zero_add,Z4,hb,Bool.and_self,cond_true,yZ,w1 i1 hmx]
     all_goals rfl
 · intro i P hi hP ho
   have i1:i<s.2.2.2.2.length:=by omega
   unfold jG at ho
   rw [List.getElem?_eq_getElem hi,List.getElem?_eq_getElem i1] at ho
   simp only [] at ho
   have hb:Nat.ble (P.length+1) 549755813888=true:=Nat.ble_eq_true_of_le (by omega)
   unfold qdB
   simp only [J0,ltN,decide_eq_true i1,cond_true,ixl i1,ixl hi,Option.bind_some]
   generalize c.2.1[i]=d at *
   generalize s.2.2.2.2[i]=x0 at *
   have hf:qfs i d x0=⟨x0.f,x0.t,x0.i,x0.d,x0.p,x0.s,x0.sl,qkJ⟩:=by rfl
   rw [hf] at ho
   rcases Bool.eq_false_or_eq_true (qV (qz (⟨x0.f,x0.t,x0.i,x0.d,x0.p,x0.s,x0.sl,qkJ⟩) d.type) d.type) with hn | hn
   · exact (qp hn).trans rfl
   · exact absurd ((qt hn).symm.trans ho) (by simp)
 · intro P hP
   unfold qdB
   simp only [J0,ltN,hl,decide_eq_false (Nat.lt_irrefl _),cond_false]
def qmv (c:CoD) (s:StD):StD:=j0 c (qmu c s) qfs
def qkL (p:CoD×StD):Option StD:=bif smS p.2 then some (qmv p.1 p.2) else none
theorem qp8 (p:CoD×StD) (y:StD) (hg:(dc cCo (d1 cSt)).good p) (h:qkL p=some y):∃ n,qiv n p.1 p.2=some y:=by
 obtain ⟨c,s⟩:=p
 obtain ⟨hm,h⟩:=qj h
 have:=soi h;subst this
 have hm:smS s=true:=hm
 refine ⟨c.2.1.length+1,?_⟩
 show qiv (c.2.1.length+1) c s=some (qmv c s)
 unfold qiv qmv
 refine obB (x:=qmu c s) (show qfr (c,s)=_ from by unfold qfr;rw [show smS (c,s).2=true from hm];rfl) ?_
 have hm:=Nat.le_trans (qkK (c:=c) (s:=s) (f:=qdC s)) (qbQ hm)
 have hm:(qmu c s).2.2.2.2.length≤1000000:=hm
 generalize qmu c s=s at *
 rcases Bool.eq_false_or_eq_true s.1 with hd | hd
 · rw [show j0 c s _=jZ from qp hd];exact qp hd
 · refine (qt hd).trans ?_
   by_cases hl:s.2.2.2.2.length=c.2.1.length
   · refine (qt (by rw [lnE,decide_eq_true hl];rfl)).trans ?_
     rcases Bool.eq_false_or_eq_true (qK [stK s]).1 with hK | hK
     · rw [show j0 c s _=jZ from (qt hd).trans ((qt (by rw [decide_eq_true hl];rfl)).trans (qp hK))]
       exact qp hK
     · refine (qt hK).trans ?_
       rw [QA _ hd hl hK]
       have hr:=qp7 c s (qK [stK s]) hl hm _ (Nat.le_refl _)
       refine obB hr ?_
       cases hb:je (jG c.2.1 s.2.2.2.2 (qfs)) c.2.1.length with
       | none=>rfl
       | some P=>exact obB (qbR P) (quj P (qK [stK s]) false)
   · rw [show j0 c s _=jZ from (qt hd).trans (qp (by rw [decide_eq_false hl];rfl))]
     exact qp (by rw [lnE,decide_eq_false hl];rfl)
end
end Su
end
section
namespace Su
open Go Fly
set_option linter.unusedVariables false
noncomputable section
def qBw  (f:Int):Option (Bool×((List Int)×(List Int))) :=
 ((Su.Q0 (((Su.qfI (Int.toNat f)):Nat):Int))).bind fun x0 =>
 some x0.1
def qkM (f:Int):Rt:=bif jR (qfI f.toNat) then (false,([],[])) else QZ (qfI f.toNat)
def ZQ (f:Int):Option Rt:=bif okS [] then some (qkM f) else none
theorem qup (f:Int) (y:Rt) (hg:(d1 (cI .u64)).good f) (h:ZQ f=some y):qBw f=some y:=by
 obtain ⟨_,h⟩:=qj h
 have:=soi h;subst this
 refine obB (qd7 _) ?_
 unfold qkM
 rw [Int.toNat_natCast]
 cases jR (qfI f.toNat) <;> rfl
end
end Su
end
section
namespace Su
open Go Fly
set_option linter.unusedVariables false
noncomputable section
structure Fin4 (a:Su.Fm):Prop where
 mid:fI a.2.1=true
 err:fI a.2.2.2=true
 tms:∀ t∈a.2.2.1,fI t.c=true
theorem qkN:∀ {l:List Tm} {k:Int},Jg k l=true→∀ t∈l,fI t.c=true
 | [],_,_,t,ht=>by cases ht
 | x::l,k,h,t,ht=>by
  simp only [Jg,Bool.and_eq_true] at h
  rcases List.mem_cons.1 ht with rfl | ht
  · exact h.2.2.1
  · exact qkN h.2.2.2 t ht
theorem qyY {a:Su.Fm} (h:okF a=true):a.1=false∧Fin4 a:=by
 unfold okF at h
 simp only [Bool.not_eq_true',Bool.or_eq_false_iff,Bool.not_eq_false'] at h
 obtain ⟨h1,h2⟩:=h
 rw [qiq,h1,cond_false] at h2
 simp only [Bool.and_eq_true] at h2
 exact ⟨h1,⟨h2.2.1,h2.2.2.2.1,qkN h2.1⟩⟩
def avF (c:Int):Nat:=(fv c.toNat).natAbs
def qyZ:List Tm→Nat→Nat
 | [],s=>s
 | t::l,s=>qyZ l (s+avF t.c)
def qp9 (a:Su.Fm):Nat:=qyZ a.2.2.1 (avF a.2.2.2)
theorem qiw (f:Nat):jt (bK f) = !jR f:=by
 unfold jR
 rw [← qh6]
 cases decide (((qF (bK f):Nat):Int)=3) <;> cases decide (((qF (bK f):Nat):Int)=4) <;> rfl
theorem qD2 {c:Int} (h:fI c=true):jR c.toNat=false:=by
 have:=qiw c.toNat
 unfold fI at h
 rw [h] at this
 cases hn:jR c.toNat with
 | false=>rfl
 | true=>rw [hn] at this;cases this
theorem qBx (f:Nat):bK (bK f)=bK f:=Nat.mod_mod _ _
theorem qGb (f:Nat):bS (bK f)=false:=qh4.2 (qj3 f)
theorem qix (c:Int):avF c<2^BX:=qis _
theorem qos:∀ (l:List Tm) (s k:Nat),s<k*2^BX→qyZ l s<(k+l.length)*2^BX
 | [],s,k,h=>h
 | t::l,s,k,h=>by
  have h1:=qix t.c
  have:=qos l (s+avF t.c) (k+1) (by rw [Nat.add_mul];omega)
  rw [List.length_cons,show k+(l.length+1)=k+1+l.length by omega]
  exact this
theorem qft {p:Int} (h:p.natAbs<1048576*2^BX):Sz (mkQ p QD) 100:=by
 have h1:=qud
 have h2:=quc
 refine qBv ?_ ?_ (by omega)
 · rw [JO,show 32*100=20+BX+1082 by omega,Nat.pow_add,Nat.pow_add]
   refine Nat.lt_of_lt_of_le h ?_
   rw [show (1048576:Nat)=2^20 from rfl]
   generalize (1082:Nat)=m
   exact Nat.le_mul_of_pos_right _ (Nat.two_pow_pos m)
 · rw [qon,JO,show 32*100=EX+2126 by omega];exact Nat.pow_lt_pow_right (by omega) (by omega)
theorem addD (p r:Int):qpM (mkQ p QD) (mkQ r QD)=mkQ (p+r) QD:=by
 rw [qoh p r yA yA,← Int.add_mul,JY _ _ yA]
theorem subD (p r:Int):qcA (mkQ p QD) (mkQ r QD)=mkQ (p-r) QD:=by
 rw [qoi p r yA yA,← Int.sub_mul,JY _ _ yA]
theorem cmpD (p r:Int):qii (mkQ p QD) (mkQ r QD)=Z5 p r:=by
 rw [qol p r yA yA,qfl _ _ yA]
theorem qy0 (p r:Int):decide (Z5 p r≤0)=decide (p≤r):=by
 unfold Z5
 by_cases h:p<r
 · rw [if_pos h,decide_eq_true (by omega),decide_eq_true (by omega)]
 · rw [if_neg h]
   by_cases h':p=r
   · rw [if_pos h',decide_eq_true (by omega),decide_eq_true (by omega)]
   · rw [if_neg h',decide_eq_false (by omega),decide_eq_false (by omega)]
def ofS (a:Su.Fm) (f:Int):Bool:=!jR f.toNat&&(!okF a||decide ((fv f.toNat-fv a.2.1.toNat).natAbs≤qp9 a))
end
end Su
end
section
namespace Su
open Go Fly
set_option linter.unusedVariables false
noncomputable section
def qiy:((List Su.Tm)×(Int×(Int×(Bool×((List Int)×((List Int)×(Bool×((List Int)×((List Int)×(Bool×((List Int)×((List Int)×Unit))))))))))))→Option (((List Su.Tm)×(Int×(Int×(Bool×((List Int)×((List Int)×(Bool×((List Int)×((List Int)×(Bool×((List Int)×((List Int)×Unit)))))))))))) ⊕ ((List Su.Tm)×(Int×(Int×(Bool×((List Int)×((List Int)×(Bool×((List Int)×((List Int)×(Bool×((List Int)×((List Int)×Unit))))))))))))):=fun p4=>(bif (decide ((p4.2.2.1<p4.2.1))) then
 ((Su.idx p4.1 p4.2.2.1)).bind fun x5 =>
 ((Su.ZQ (Su.Tm.c x5))).bind fun x6 =>
 ((Su.Y0 ((p4.2.2.2.2.2.2.2.2.2.1,(p4.2.2.2.2.2.2.2.2.2.2.1,p4.2.2.2.2.2.2.2.2.2.2.2.1)),x6))).bind fun x7 =>
 some (.inl (p4.1,(p4.2.1,((Go.IntKind.wrap .i64 (p4.2.2.1+1)),(p4.2.2.2.1,(p4.2.2.2.2.1,(p4.2.2.2.2.2.1,(p4.2.2.2.2.2.2.1,(p4.2.2.2.2.2.2.2.1,(p4.2.2.2.2.2.2.2.2.1,(x7.1,(x7.2.1,(x7.2.2,())))))))))))))
 else
  some (.inr (p4.1,(p4.2.1,(p4.2.2.1,(p4.2.2.2.1,(p4.2.2.2.2.1,(p4.2.2.2.2.2.1,(p4.2.2.2.2.2.2.1,(p4.2.2.2.2.2.2.2.1,(p4.2.2.2.2.2.2.2.2.1,(p4.2.2.2.2.2.2.2.2.2.1,(p4.2.2.2.2.2.2.2.2.2.2.1,(p4.2.2.2.2.2.2.2.2.2.2.2.1,()))))))))))))))
def aOf  (fu:Nat) (a:(Bool×(Int×((List Su.Tm)×Int)))) (f:Int):Option Bool :=
 ((Su.Q0 f)).bind fun x0 =>
 (bif (!x0.2) then
 some x0.2
 else
  (bif (List.any [a] (fun z1=>(z1.1||(!(Su.qaF z1))))) then
  some x0.2
 else
  ((Su.Q0 a.2.1)).bind fun x2 =>
  ((Su.ZQ a.2.2.2)).bind fun x3 =>
  (itP fu (qiy) (a.2.2.1,((((List.length a.2.2.1):Nat):Int),((0:Int),(x0.1.1,(x0.1.2.1,(x0.1.2.2,(x2.1.1,(x2.1.2.1,(x2.1.2.2,(x3.1,(x3.2.1,(x3.2.2,()))))))))))))).bind fun x8 =>
  ((Su.qaE ((x8.2.2.2.1,(x8.2.2.2.2.1,x8.2.2.2.2.2.1)),(x8.2.2.2.2.2.2.1,(x8.2.2.2.2.2.2.2.1,x8.2.2.2.2.2.2.2.2.1))))).bind fun x9 =>
  ((Su.qaB x9)).bind fun x10 =>
  ((Su.qaD (x10,(x8.2.2.2.2.2.2.2.2.2.1,(x8.2.2.2.2.2.2.2.2.2.2.1,x8.2.2.2.2.2.2.2.2.2.2.2.1))))).bind fun x11 =>
  some (decide ((x11≤0)))))
theorem qkO {c:Int} (hg:inR .u64 c=true) (h:fI c=true):qkM c=mkQ (avF c:Int) QD:=by
 obtain ⟨n,rfl,hn⟩:=qL hg
 have h':jt (bK n)=true:=by have:=h;unfold fI at this;rwa [Int.toNat_natCast] at this
 have hnan:ji (bK n)=false:=QV.2 (by have:=jk.1 h';omega)
 have hab:qfI n=bK n:=by unfold qfI;rw [hnan];rfl
 have hnum:jR (bK n)=false:=by
  have:=qiw (bK n)
  rw [qBx,h'] at this
  cases hx:jR (bK n) with
  | false=>rfl
  | true=>rw [hx] at this;cases this
 unfold qkM avF
 rw [Int.toNat_natCast,hab,hnum,cond_false,qbP]
 congr 1
 unfold fv fvK
 rw [qBx,qGb,h',cond_true,cond_true,cond_false]
 cases bS n <;> simp
abbrev OfS:=List Su.Tm×(Int×(Int×(Bool×(List Int×(List Int×(Bool×(List Int×(List Int×(Bool×(List Int×(List Int×Unit)))))))))))
def qy1 (l:List Su.Tm) (v m r:Rt) (i:Int):OfS:=(l,(((l.length:Nat):Int),(i,(v.1,(v.2.1,(v.2.2,(m.1,(m.2.1,(m.2.2,(r.1,(r.2.1,(r.2.2,()))))))))))))
theorem qkP (c:Int):ZQ c=some (qkM c):=by unfold ZQ;rw [qdV,cond_true]
theorem qy2 {p r:Int} (h1:p.natAbs<1048576*2^BX) (h2:r.natAbs<1048576*2^BX):Y0 (mkQ p QD,mkQ r QD)=some (mkQ (p+r) QD):=by
 unfold Y0
 simp only []
 rw [(qft h1).ok4 (by omega),(qft h2).ok4 (by omega),addD];rfl
theorem qot (l:List Su.Tm) (hl:l.length≤1000000) (hg:∀ t∈l,inR .u64 t.c=true) (hf:∀ t∈l,fI t.c=true) (v m:Rt):∀ (r A:List Su.Tm) (s k:Nat),A++r=l→s<k*2^BX→k+r.length≤1000010 →
 jD (r.length+1) qiy (qy1 l v m (mkQ (s:Int) QD) A.length) (qy1 l v m (mkQ ((qyZ r s:Nat):Int) QD) l.length)
 | [],A,s,k,h,_,_=>by
  rw [List.append_nil] at h;subst h
  refine jD.stop ?_
  unfold qy1
  simp only [qiy,ltN,decide_eq_false (Nat.lt_irrefl _),cond_false];rfl
 | x::r,A,s,k,h,hs,hk=>by
  have hm:l.length≤maxLen:=by rw [qI];omega
  have hi:A.length<l.length:=by rw [← h];simp
  have hx:x∈l:=by rw [← h];simp
  have hgx:idx l (A.length:Int)=some x:=by
   rw [qZ,← h,List.getElem?_append_right (by omega),Nat.sub_self];rfl
  have ha:=qix x.c
  have hs':s+avF x.c<(k+1)*2^BX:=by rw [Nat.add_mul];omega
  rw [List.length_cons] at hk
  have hbig:∀ z q:Nat,z<q*2^BX→q≤1048576→((z:Nat):Int).natAbs<1048576*2^BX:=fun z q h1 h2=>by
   rw [Int.natAbs_natCast];exact Nat.lt_of_lt_of_le h1 (Nat.mul_le_mul_right _ h2)
  have hadd:=qy2 (hbig s k hs (by omega)) (hbig (avF x.c) 1 (by omega) (by omega))
  have ih:=qot l hl hg hf v m r (A++[x]) (s+avF x.c) (k+1) (by rw [← h];simp) hs' (by omega)
  refine jD.next ?_ ih
  unfold qy1
  simp only [qiy,ltN,decide_eq_true hi,cond_true,hgx,Option.bind_some,w1 hi hm,qkP]
  rw [qkO (hg x hx) (hf x hx)]
  refine obB hadd ?_
  rw [show (A++[x]).length=A.length+1 by simp]
  rfl
def qkQ (p:Su.Fm×Int):Option Bool:=bif Nat.ble p.1.2.2.1.length 1000000 then some (ofS p.1 p.2) else none
theorem qD3 (p:Su.Fm×Int) (y:Bool) (hg:(dc yc (d1 (cI .u64))).good p) (h:qkQ p=some y):∃ n,aOf n p.1 p.2=some y:=by
 obtain ⟨a,f⟩:=p
 obtain ⟨hm,h⟩:=qj h
 have:=soi h;subst this
 have hl:a.2.2.1.length≤1000000:=Nat.le_of_ble_eq_true hm
 refine ⟨a.2.2.1.length+1,?_⟩
 show aOf (a.2.2.1.length+1) a f=some (ofS a f)
 have ha:List.any [a] (fun z0=>(z0.1||(!(Su.qaF z0)))) = !okF a:=by simp [okF]
 unfold aOf ofS
 refine obB (qd7 f) ?_
 rcases Bool.eq_false_or_eq_true (jR f.toNat) with hn | hn
 · rw [hn];rfl
 · rw [hn]
   simp only [cond_false,Bool.not_true,Bool.not_false,Bool.true_and]
   rw [ha]
   rcases Bool.eq_false_or_eq_true (okF a) with ho | ho
   · obtain ⟨h0,hfin⟩:=qyY ho
     rw [ho]
     simp only [cond_false,Bool.not_true,Bool.false_or]
     obtain ⟨-,g1,⟨g2,-⟩,g3⟩:=hg.1
     refine obB (qd7 a.2.1) ?_
     rw [qD2 hfin.mid,cond_false]
     refine obB (qkP _) ?_
     rw [qkO g3 hfin.err]
     have hrun:=qot a.2.2.1 hl (fun t ht=>(g2 t ht).2) hfin.tms (QZ f.toNat) (QZ a.2.1.toNat) a.2.2.1 [] (avF a.2.2.2) 1 rfl (by have:=qix a.2.2.2;omega) (by omega)
     refine obB (hrun _ (Nat.le_refl _)) ?_
     have b1:=qis f.toNat
     have b2:=qis a.2.1.toNat
     have b3:(fv f.toNat-fv a.2.1.toNat).natAbs<1048576*2^BX:=by omega
     have b4:((qp9 a:Nat):Int).natAbs<1048576*2^BX:=by
      have:=qos a.2.2.1 (avF a.2.2.2) 1 (by have:=qix a.2.2.2;omega)
      rw [Int.natAbs_natCast]
      exact Nat.lt_of_lt_of_le this (Nat.mul_le_mul_right _ (by omega))
     have z1:Sz (QZ f.toNat) 100000:=(qd6 _).mono (by omega)
     have z2:Sz (QZ a.2.1.toNat) 100000:=(qd6 _).mono (by omega)
     have s1:qaE (QZ f.toNat,QZ a.2.1.toNat)=some (mkQ (fv f.toNat-fv a.2.1.toNat) QD):=by
      rw [(que z1 z2).1,qbP,qbP,subD]
     have s2:qaB (mkQ (fv f.toNat-fv a.2.1.toNat) QD)=some (mkQ ((fv f.toNat-fv a.2.1.toNat).natAbs:Int) QD):=by
      rw [(quf ((qft b3).mono (by omega))).1,qoj _ yA]
     have s3:qaD (mkQ ((fv f.toNat-fv a.2.1.toNat).natAbs:Int) QD,mkQ ((qp9 a:Nat):Int) QD)=some (Z5 ((fv f.toNat-fv a.2.1.toNat).natAbs:Int) (qp9 a:Int)):=by
      rw [qug ((qft (by rw [Int.natAbs_natCast];exact b3)).mono (by omega)) ((qft b4).mono (by omega)),cmpD]
     refine obB s1 (obB s2 (obB s3 ?_))
     rw [qy0]
     congr 1
     by_cases hle:(fv f.toNat-fv a.2.1.toNat).natAbs≤qp9 a
     · rw [decide_eq_true hle,decide_eq_true (by omega)]
     · rw [decide_eq_false hle,decide_eq_false (by omega)]
   · rw [ho];rfl
end
end Su
end
section
namespace Su
open Go Fly
set_option linter.unusedVariables false
noncomputable section
abbrev qcN:=((List Su.Vl)×(Int×(Int×((List Su.Cc)×((List Su.T)×((List Su.T)×((List Su.T)×((List Su.T)×(Int×((List Su.Ce)×(Int×(Int×Unit))))))))))))
def qbV:qcN→Option (qcN ⊕ (Lp qcN Bool)):=fun p0=>(bif (decide ((p0.2.2.2.2.2.2.2.2.2.2.2.1<p0.2.2.2.2.2.2.2.2.2.2.1))) then
 ((Su.idx p0.2.2.2.2.2.2.2.2.2.1 p0.2.2.2.2.2.2.2.2.2.2.2.1)).bind fun x1 =>
 ((Su.idx p0.2.2.2.1 p0.2.2.2.2.2.2.2.2.2.2.2.1)).bind fun x2 =>
 ((Su.idx p0.1 p0.2.2.2.2.2.2.2.2.2.2.2.1)).bind fun x3 =>
 (bif (!(decide (((Su.Vl.type x3)=(Su.Cc.type x2))))) then
 some (.inr (.ret false))
 else
  (bif (decide (((Su.Cc.type x2)=1))) then
  (bif (Su.Vl.b x3) then
  (bif (Su.Ce.t x1) then
  some (.inl (p0.1,(p0.2.1,(p0.2.2.1,(p0.2.2.2.1,(p0.2.2.2.2.1,(p0.2.2.2.2.2.1,(p0.2.2.2.2.2.2.1,(p0.2.2.2.2.2.2.2.1,(p0.2.2.2.2.2.2.2.2.1,(p0.2.2.2.2.2.2.2.2.2.1,(p0.2.2.2.2.2.2.2.2.2.2.1,((Go.IntKind.wrap .i64 (p0.2.2.2.2.2.2.2.2.2.2.2.1+1)),())))))))))))))
 else
  (bif (!(Su.Vl.b x3)) then
  (bif (!(Su.Ce.f x1)) then
  some (.inr (.ret false))
 else
  some (.inl (p0.1,(p0.2.1,(p0.2.2.1,(p0.2.2.2.1,(p0.2.2.2.2.1,(p0.2.2.2.2.2.1,(p0.2.2.2.2.2.2.1,(p0.2.2.2.2.2.2.2.1,(p0.2.2.2.2.2.2.2.2.1,(p0.2.2.2.2.2.2.2.2.2.1,(p0.2.2.2.2.2.2.2.2.2.2.1,((Go.IntKind.wrap .i64 (p0.2.2.2.2.2.2.2.2.2.2.2.1+1)),()))))))))))))))
 else
  some (.inr (.ret false))))
 else
  (bif (!(Su.Vl.b x3)) then
  (bif (!(Su.Ce.f x1)) then
  some (.inr (.ret false))
 else
  some (.inl (p0.1,(p0.2.1,(p0.2.2.1,(p0.2.2.2.1,(p0.2.2.2.2.1,(p0.2.2.2.2.2.1,(p0.2.2.2.2.2.2.1,(p0.2.2.2.2.2.2.2.1,(p0.2.2.2.2.2.2.2.2.1,(p0.2.2.2.2.2.2.2.2.2.1,(p0.2.2.2.2.2.2.2.2.2.2.1,((Go.IntKind.wrap .i64 (p0.2.2.2.2.2.2.2.2.2.2.2.1+1)),()))))))))))))))
 else
  some (.inr (.ret false))))
 else
  (bif (decide (((Su.Cc.type x2)=2))) then
  (bif (Su.qE x1.3 (Go.IntKind.wrap .i64 (Su.Vl.i x3))) then
  (bif (!(Su.JU (x1.4,x1.5) (Go.IntKind.wrap .i64 (Su.Vl.i x3)) p0.2.1)) then
  some (.inr (.ret false))
 else
  some (.inl (p0.1,(p0.2.1,(p0.2.2.1,(p0.2.2.2.1,(p0.2.2.2.2.1,(p0.2.2.2.2.2.1,(p0.2.2.2.2.2.2.1,(p0.2.2.2.2.2.2.2.1,(p0.2.2.2.2.2.2.2.2.1,(p0.2.2.2.2.2.2.2.2.2.1,(p0.2.2.2.2.2.2.2.2.2.2.1,((Go.IntKind.wrap .i64 (p0.2.2.2.2.2.2.2.2.2.2.2.1+1)),()))))))))))))))
 else
  some (.inr (.ret false)))
 else
  (bif (decide (((Su.Cc.type x2)=3))) then
  (bif (Su.Y7 x1.6 (Su.Vl.f x3)) then
  ((Su.qkQ (x1.8,(Su.Vl.f x3)))).bind fun x4 =>
  (bif (!x4) then
  some (.inr (.ret false))
 else
  some (.inl (p0.1,(p0.2.1,(p0.2.2.1,(p0.2.2.2.1,(p0.2.2.2.2.1,(p0.2.2.2.2.2.1,(p0.2.2.2.2.2.2.1,(p0.2.2.2.2.2.2.2.1,(p0.2.2.2.2.2.2.2.2.1,(p0.2.2.2.2.2.2.2.2.2.1,(p0.2.2.2.2.2.2.2.2.2.2.1,((Go.IntKind.wrap .i64 (p0.2.2.2.2.2.2.2.2.2.2.2.1+1)),()))))))))))))))
 else
  some (.inr (.ret false)))
 else
  some (.inr (.ret false))))))
 else
  some (.inr (.exit 0 (p0.1,(p0.2.1,(p0.2.2.1,(p0.2.2.2.1,(p0.2.2.2.2.1,(p0.2.2.2.2.2.1,(p0.2.2.2.2.2.2.1,(p0.2.2.2.2.2.2.2.1,(p0.2.2.2.2.2.2.2.2.1,(p0.2.2.2.2.2.2.2.2.2.1,(p0.2.2.2.2.2.2.2.2.2.2.1,(p0.2.2.2.2.2.2.2.2.2.2.2.1,())))))))))))))))
def qy3  (fu:Nat) (c:(Int×((List Su.Cc)×((List Su.T)×((List Su.T)×((List Su.T)×((List Su.T)×Int))))))) (s:(Bool×(Bool×(Int×(Int×(List Su.Ce)))))) (row:(List Su.Vl)) (k:Int):Option Bool :=
 (bif s.1 then
 some false
 else
  (bif (!(decide (((((List.length s.2.2.2.2):Nat):Int)=(((List.length c.2.1):Nat):Int))))) then
  some false
 else
  (bif (!(decide (((((List.length row):Nat):Int)=(((List.length c.2.1):Nat):Int))))) then
  some false
 else
  (bif (!(Su.qE (s.2.1,(s.2.2.1,s.2.2.2.1)) k)) then
  some false
 else
  (itP fu (qbV) (row,(k,(c.1,(c.2.1,(c.2.2.1,(c.2.2.2.1,(c.2.2.2.2.1,(c.2.2.2.2.2.1,(c.2.2.2.2.2.2,(s.2.2.2.2,((((List.length s.2.2.2.2):Nat):Int),((0:Int),()))))))))))))).bind fun x5 =>
  (match x5 with
 | .exit i6 p7=>(bif (Nat.beq i6 0) then
  some true
 else
  none)
 | .ret o8=>some o8)))))
def yU (t:Int) (x:Su.Ce) (v:Su.Vl) (k:Int):Bool :=
 bif !decide (v.type=t) then false
 else bif decide (t=1) then (v.b&&x.t)||(!v.b&&x.f)
 else bif decide (t=2) then qE x.i v.i&&JU (x.d,x.p) v.i k
 else bif decide (t=3) then Y7 x.s v.f&&ofS x.fm v.f
 else false
def hsN (C:List Su.Cc) (X:List Su.Ce) (row:List Su.Vl) (k:Int) (i:Nat):Bool :=
 match C[i]?,X[i]?,row[i]? with
 | some d,some x,some v=>yU d.type x v k
 | _,_,_=>true
def Jw (c:CoD) (s:StD) (row:List Su.Vl) (k:Int):Bool :=
 bif s.1 then false else bif !decide (s.2.2.2.2.length=c.2.1.length) then false else bif !decide (row.length=c.2.1.length) then false
 else bif !qE (stK s) k then false else qaG c.2.1.length (hsN c.2.1 s.2.2.2.2 row k)
abbrev HsS:=List Su.Vl×(Int×(Int×(List Su.Cc×(List Su.T×(List Su.T×(List Su.T×(List Su.T×(Int×(List Su.Ce×(Int×(Int×Unit)))))))))))
def qqa (c:CoD) (s:StD) (row:List Su.Vl) (k i:Int):HsS :=
 (row,(k,(c.1,(c.2.1,(c.2.2.1,(c.2.2.2.1,(c.2.2.2.2.1,(c.2.2.2.2.2.1,(c.2.2.2.2.2.2,(s.2.2.2.2,(((s.2.2.2.2.length:Nat):Int),(i,()))))))))))))
def quq (p:CoD×(StD×(List Su.Vl×Int))):Option Bool:=bif smS p.2.1 then some (Jw p.1 p.2.1 p.2.2.1 p.2.2.2) else none
theorem qD4 {s:StD} (h:smS s=true) {x:Su.Ce} (hx:x∈s.2.2.2.2) (f:Int):qkQ (x.fm,f)=some (ofS x.fm f):=by
 unfold smS at h
 rw [Bool.and_eq_true] at h
 have:=List.all_eq_true.1 h.2 x hx
 unfold qkQ
 rw [show Nat.ble (x.fm,f).1.2.2.1.length 1000000=true from this,cond_true]
theorem qkR (c:CoD) (s:StD) (row:List Su.Vl) (k:Int) (hm:smS s=true) (hg:∀ v∈row,qxR.good (qxS v)) (h1:s.2.2.2.2.length=c.2.1.length) (h2:row.length=c.2.1.length) (i:Nat) (hi:i<c.2.1.length) :
 qbV (qqa c s row k i)=some (bif hsN c.2.1 s.2.2.2.2 row k i then .inl (qqa c s row k ((i+1:Nat):Int)) else .inr (.ret false)):=by
 have i1:i<s.2.2.2.2.length:=by omega
 have i2:i<row.length:=by omega
 have hmx:s.2.2.2.2.length≤maxLen:=by have:=qbQ hm;rw [qI];omega
 have hof:=qD4 hm (List.getElem_mem i1)
 have hv:=hg _ (List.getElem_mem i2)
 unfold hsN qqa
 rw [List.getElem?_eq_getElem hi,List.getElem?_eq_getElem i1,List.getElem?_eq_getElem i2]
 simp only [qbV,ltN,decide_eq_true i1,cond_true,ixl i1,ixl hi,ixl i2,Option.bind_some,w1 i1 hmx]
 generalize c.2.1[i]=d at *
 generalize s.2.2.2.2[i]=x at *
 generalize row[i]=v at *
 have hvi:IntKind.i64.wrap v.i=v.i:=by
  have:=qhZ.1 hv.2.2.1
  have h3 : -2147483648≤v.i∧v.i<2147483648:=this
  exact w64 (by omega) (by omega)
 rw [hvi]
 unfold yU
 by_cases t0:v.type=d.type
 · rw [decide_eq_true t0]
   refine (qt rfl).trans ?_
   by_cases t1:d.type=1
   · rw [decide_eq_true t1]
     cases v.b <;> cases x.t <;> cases x.f <;> rfl
   · rw [decide_eq_false t1]
     refine (qt rfl).trans ?_
     by_cases t2:d.type=2
     · rw [decide_eq_true t2]
       cases qE x.i v.i <;> cases JU (x.d,x.p) v.i k <;> rfl
     · rw [decide_eq_false t2]
       refine (qt rfl).trans ?_
       by_cases t3:d.type=3
       · rw [decide_eq_true t3]
         cases Y7 x.s v.f with
         | false=>rfl
         | true =>
          refine (qp rfl).trans ((qp rfl).trans (obB (hof v.f) ?_))
          cases ofS x.fm v.f <;> rfl
       · rw [decide_eq_false t3];rfl
 · rw [decide_eq_false t0];rfl
theorem qy4 (p:CoD×(StD×(List Su.Vl×Int))) (y:Bool) (hg:(dc cCo (dc cSt (dc (cL rVl) (d1 (cI .i64))))).good p) (h:quq p=some y):∃ n,qy3 n p.1 p.2.1 p.2.2.1 p.2.2.2=some y:=by
 obtain ⟨c,s,row,k⟩:=p
 obtain ⟨hm,h⟩:=qj h
 have:=soi h;subst this
 have hm:smS s=true:=hm
 have hgr:∀ v∈row,qxR.good (qxS v):=hg.2.2.1.1
 refine ⟨c.2.1.length+1,?_⟩
 show qy3 (c.2.1.length+1) c s row k=some (Jw c s row k)
 unfold qy3
 rcases Bool.eq_false_or_eq_true s.1 with hd | hd
 · rw [show Jw c s row k=false from qp hd];exact qp hd
 · refine (qt hd).trans ?_
   rw [lnE,lnE]
   by_cases h1:s.2.2.2.2.length=c.2.1.length
   · have e1:(!decide (s.2.2.2.2.length=c.2.1.length))=false:=by rw [decide_eq_true h1];rfl
     refine (qt e1).trans ?_
     by_cases h2:row.length=c.2.1.length
     · have e2:(!decide (row.length=c.2.1.length))=false:=by rw [decide_eq_true h2];rfl
       refine (qt e2).trans ?_
       rcases Bool.eq_false_or_eq_true (qE (stK s) k) with hk | hk
       · have e3:(!qE (stK s) k)=false:=by rw [hk];rfl
         refine (qt e3).trans ?_
         rw [show Jw c s row k=qaG c.2.1.length (hsN c.2.1 s.2.2.2.2 row k) from (qt hd).trans ((qt e1).trans ((qt e2).trans (qt e3)))]
         have hK:=qbJ (F:=qbV) (mk:=fun i=>qqa c s row k (i:Int)) (n:=c.2.1.length) (ok:=hsN c.2.1 s.2.2.2.2 row k) (r1:=.ret false) (r0:=.exit 0 (qqa c s row k (c.2.1.length:Int)))
          (fun i hi hk=>by rw [qkR c s row k hm hgr h1 h2 i hi,hk];rfl) (fun i hi hk=>by rw [qkR c s row k hm hgr h1 h2 i hi,hk];rfl)
          (by unfold qqa;simp only [qbV,ltN,h1,decide_eq_false (Nat.lt_irrefl _),cond_false])
         refine obB (hK _ (Nat.le_refl _)) ?_
         cases qaG c.2.1.length (hsN c.2.1 s.2.2.2.2 row k) <;> rfl
       · have e3:(!qE (stK s) k)=true:=by rw [hk];rfl
         rw [show Jw c s row k=false from (qt hd).trans ((qt e1).trans ((qt e2).trans (qp e3)))]
         exact qp e3
     · have e2:(!decide (row.length=c.2.1.length))=true:=by rw [decide_eq_false h2];rfl
       rw [show Jw c s row k=false from (qt hd).trans ((qt e1).trans (qp e2))]
       exact qp e2
   · have e1:(!decide (s.2.2.2.2.length=c.2.1.length))=true:=by rw [decide_eq_false h1];rfl
     rw [show Jw c s row k=false from (qt hd).trans (qp e1)]
     exact qp e1
end
end Su
end
section
namespace Su
open Go Fly
set_option linter.unusedVariables false
noncomputable section
end
end Su
end
