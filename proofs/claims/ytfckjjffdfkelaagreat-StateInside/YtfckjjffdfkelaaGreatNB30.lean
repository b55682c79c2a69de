/-
  What functions of the program compute, in plain Lean, and that the evaluator finds it.
-/
import Derived.Test.YtfckjjffdfkelaaGreatSuSd
import Derived.Test.YtfckjjffdfkelaaGreatNB27
import Derived.Test.YtfckjjffdfkelaaGreatNB25
import Derived.Test.YtfckjjffdfkelaaGreatNC14
set_option maxRecDepth 10000
section
namespace Su
open Go Fly
set_option linter.unusedVariables false
noncomputable section
abbrev qc8:=(Int×((List Su.Cc)×((List Su.T)×((List Su.T)×((List Su.T)×((List Su.T)×(Int×(Bool×(Bool×(Int×(Int×((List Su.Ce)×(Int×((List Su.Cc)×((List Su.T)×((List Su.T)×((List Su.T)×((List Su.T)×(Int×((List Su.Ce)×(Int×(Int×((List Su.T)×(Bool×(Bool×(Int×(Int×(Nat×((List Su.T)×(Bool×(Bool×(Int×(Int×(Nat×Unit))))))))))))))))))))))))))))))))))
def qcf:qc8→Option (qc8 ⊕ (Lp qc8 (Bool×(Bool×(Int×(Int×(List Su.Ce))))))):=fun p0=>(bif (decide ((p0.2.2.2.2.2.2.2.2.2.2.2.2.2.2.2.2.2.2.2.2.2.1<p0.2.2.2.2.2.2.2.2.2.2.2.2.2.2.2.2.2.2.2.2.1))) then
 ((Su.idx p0.2.2.2.2.2.2.2.2.2.2.2.2.2.2.2.2.2.2.2.1 p0.2.2.2.2.2.2.2.2.2.2.2.2.2.2.2.2.2.2.2.2.2.1)).bind fun x1 =>
 ((Su.idx p0.2.2.2.2.2.2.2.2.2.2.2.2.2.1 p0.2.2.2.2.2.2.2.2.2.2.2.2.2.2.2.2.2.2.2.2.2.1)).bind fun x2 =>
 ((Su.idx p0.2.1 p0.2.2.2.2.2.2.2.2.2.2.2.2.2.2.2.2.2.2.2.2.2.1)).bind fun x3 =>
 (bif (decide (((Su.Cc.type x3)=2))) then
 ((Su.Z1 x1.8)).bind fun x4 =>
 (bif (Su.qJ (Su.qo (Su.Ce.mk (Su.Ce.f x1) (Su.Ce.t x1) (Su.Jt x1.3 (x1.4,x1.5) (p0.2.2.2.2.2.2.2.2.1,(p0.2.2.2.2.2.2.2.2.2.1,p0.2.2.2.2.2.2.2.2.2.2.1))) (Su.Zk (x1.4,x1.5) (Su.jm (Su.Jt x1.3 (x1.4,x1.5) (p0.2.2.2.2.2.2.2.2.1,(p0.2.2.2.2.2.2.2.2.2.1,p0.2.2.2.2.2.2.2.2.2.2.1))) (p0.2.2.2.2.2.2.2.2.1,(p0.2.2.2.2.2.2.2.2.2.1,p0.2.2.2.2.2.2.2.2.2.2.1)))).1 (Su.Zk (x1.4,x1.5) (Su.jm (Su.Jt x1.3 (x1.4,x1.5) (p0.2.2.2.2.2.2.2.2.1,(p0.2.2.2.2.2.2.2.2.2.1,p0.2.2.2.2.2.2.2.2.2.2.1))) (p0.2.2.2.2.2.2.2.2.1,(p0.2.2.2.2.2.2.2.2.2.1,p0.2.2.2.2.2.2.2.2.2.2.1)))).2 (Su.Jl x1.6 x4) (Su.Ce.sl x1) x1.8) (Su.Cc.type x2)) (Su.Cc.type x2)) then
 some (.inr (.ret (true,(false,((0:Int),((0:Int),[]))))))
 else
  (bif ((true&&(Nat.beq p0.2.2.2.2.2.2.2.2.2.2.2.2.2.2.2.2.2.2.2.2.2.2.2.2.2.2.2.2.2.2.2.2.2.1 (List.length p0.2.2.2.2.2.2.2.2.2.2.2.2.2.2.2.2.2.2.2.2.2.2.2.2.2.2.2.2.1)))&&(Nat.ble ((List.length p0.2.2.2.2.2.2.2.2.2.2.2.2.2.2.2.2.2.2.2.2.2.2.2.2.2.2.2.2.1)+(List.length [(Su.view 14 (Su.qo (Su.Ce.mk (Su.Ce.f x1) (Su.Ce.t x1) (Su.Jt x1.3 (x1.4,x1.5) (p0.2.2.2.2.2.2.2.2.1,(p0.2.2.2.2.2.2.2.2.2.1,p0.2.2.2.2.2.2.2.2.2.2.1))) (Su.Zk (x1.4,x1.5) (Su.jm (Su.Jt x1.3 (x1.4,x1.5) (p0.2.2.2.2.2.2.2.2.1,(p0.2.2.2.2.2.2.2.2.2.1,p0.2.2.2.2.2.2.2.2.2.2.1))) (p0.2.2.2.2.2.2.2.2.1,(p0.2.2.2.2.2.2.2.2.2.1,p0.2.2.2.2.2.2.2.2.2.2.1)))).1 (Su.Zk (x1.4,x1.5) (Su.jm (Su.Jt x1.3 (x1.4,x1.5) (p0.2.2.2.2.2.2.2.2.1,(p0.2.2.2.2.2.2.2.2.2.1,p0.2.2.2.2.2.2.2.2.2.2.1))) (p0.2.2.2.2.2.2.2.2.1,(p0.2.2.2.2.2.2.2.2.2.1,p0.2.2.2.2.2.2.2.2.2.2.1)))).2 (Su.Jl x1.6 x4) (Su.Ce.sl x1) x1.8) (Su.Cc.type x2)))])) 549755813888)) then
  some (.inl (p0.1,(p0.2.1,(p0.2.2.1,(p0.2.2.2.1,(p0.2.2.2.2.1,(p0.2.2.2.2.2.1,(p0.2.2.2.2.2.2.1,(p0.2.2.2.2.2.2.2.1,(p0.2.2.2.2.2.2.2.2.1,(p0.2.2.2.2.2.2.2.2.2.1,(p0.2.2.2.2.2.2.2.2.2.2.1,(p0.2.2.2.2.2.2.2.2.2.2.2.1,(p0.2.2.2.2.2.2.2.2.2.2.2.2.1,(p0.2.2.2.2.2.2.2.2.2.2.2.2.2.1,(p0.2.2.2.2.2.2.2.2.2.2.2.2.2.2.1,(p0.2.2.2.2.2.2.2.2.2.2.2.2.2.2.2.1,(p0.2.2.2.2.2.2.2.2.2.2.2.2.2.2.2.2.1,(p0.2.2.2.2.2.2.2.2.2.2.2.2.2.2.2.2.2.1,(p0.2.2.2.2.2.2.2.2.2.2.2.2.2.2.2.2.2.2.1,(p0.2.2.2.2.2.2.2.2.2.2.2.2.2.2.2.2.2.2.2.1,(p0.2.2.2.2.2.2.2.2.2.2.2.2.2.2.2.2.2.2.2.2.1,((Go.IntKind.wrap .i64 (p0.2.2.2.2.2.2.2.2.2.2.2.2.2.2.2.2.2.2.2.2.2.1+1)),(p0.2.2.2.2.2.2.2.2.2.2.2.2.2.2.2.2.2.2.2.2.2.2.1,(p0.2.2.2.2.2.2.2.2.2.2.2.2.2.2.2.2.2.2.2.2.2.2.2.1,(p0.2.2.2.2.2.2.2.2.2.2.2.2.2.2.2.2.2.2.2.2.2.2.2.2.1,(p0.2.2.2.2.2.2.2.2.2.2.2.2.2.2.2.2.2.2.2.2.2.2.2.2.2.1,(p0.2.2.2.2.2.2.2.2.2.2.2.2.2.2.2.2.2.2.2.2.2.2.2.2.2.2.1,(p0.2.2.2.2.2.2.2.2.2.2.2.2.2.2.2.2.2.2.2.2.2.2.2.2.2.2.2.1,((p0.2.2.2.2.2.2.2.2.2.2.2.2.2.2.2.2.2.2.2.2.2.2.2.2.2.2.2.2.1++[(Su.view 14 (Su.qo (Su.Ce.mk (Su.Ce.f x1) (Su.Ce.t x1) (Su.Jt x1.3 (x1.4,x1.5) (p0.2.2.2.2.2.2.2.2.1,(p0.2.2.2.2.2.2.2.2.2.1,p0.2.2.2.2.2.2.2.2.2.2.1))) (Su.Zk (x1.4,x1.5) (Su.jm (Su.Jt x1.3 (x1.4,x1.5) (p0.2.2.2.2.2.2.2.2.1,(p0.2.2.2.2.2.2.2.2.2.1,p0.2.2.2.2.2.2.2.2.2.2.1))) (p0.2.2.2.2.2.2.2.2.1,(p0.2.2.2.2.2.2.2.2.2.1,p0.2.2.2.2.2.2.2.2.2.2.1)))).1 (Su.Zk (x1.4,x1.5) (Su.jm (Su.Jt x1.3 (x1.4,x1.5) (p0.2.2.2.2.2.2.2.2.1,(p0.2.2.2.2.2.2.2.2.2.1,p0.2.2.2.2.2.2.2.2.2.2.1))) (p0.2.2.2.2.2.2.2.2.1,(p0.2.2.2.2.2.2.2.2.2.1,p0.2.2.2.2.2.2.2.2.2.2.1)))).2 (Su.Jl x1.6 x4) (Su.Ce.sl x1) x1.8) (Su.Cc.type x2)))]),(p0.2.2.2.2.2.2.2.2.2.2.2.2.2.2.2.2.2.2.2.2.2.2.2.2.2.2.2.2.2.1,(p0.2.2.2.2.2.2.2.2.2.2.2.2.2.2.2.2.2.2.2.2.2.2.2.2.2.2.2.2.2.2.1,(p0.2.2.2.2.2.2.2.2.2.2.2.2.2.2.2.2.2.2.2.2.2.2.2.2.2.2.2.2.2.2.2.1,(p0.2.2.2.2.2.2.2.2.2.2.2.2.2.2.2.2.2.2.2.2.2.2.2.2.2.2.2.2.2.2.2.2.1,((List.length (p0.2.2.2.2.2.2.2.2.2.2.2.2.2.2.2.2.2.2.2.2.2.2.2.2.2.2.2.2.1++[(Su.view 14 (Su.qo (Su.Ce.mk (Su.Ce.f x1) (Su.Ce.t x1) (Su.Jt x1.3 (x1.4,x1.5) (p0.2.2.2.2.2.2.2.2.1,(p0.2.2.2.2.2.2.2.2.2.1,p0.2.2.2.2.2.2.2.2.2.2.1))) (Su.Zk (x1.4,x1.5) (Su.jm (Su.Jt x1.3 (x1.4,x1.5) (p0.2.2.2.2.2.2.2.2.1,(p0.2.2.2.2.2.2.2.2.2.1,p0.2.2.2.2.2.2.2.2.2.2.1))) (p0.2.2.2.2.2.2.2.2.1,(p0.2.2.2.2.2.2.2.2.2.1,p0.2.2.2.2.2.2.2.2.2.2.1)))).1 (Su.Zk (x1.4,x1.5) (Su.jm (Su.Jt x1.3 (x1.4,x1.5) (p0.2.2.2.2.2.2.2.2.1,(p0.2.2.2.2.2.2.2.2.2.1,p0.2.2.2.2.2.2.2.2.2.2.1))) (p0.2.2.2.2.2.2.2.2.1,(p0.2.2.2.2.2.2.2.2.2.1,p0.2.2.2.2.2.2.2.2.2.2.1)))).2 (Su.Jl x1.6 x4) (Su.Ce.sl x1) x1.8) (Su.Cc.type x2)))])),())))))))))))))))))))))))))))))))))))
 else
  none))
 else
  ((Su.Z1 x1.8)).bind fun x5 =>
  (bif (Su.qJ (Su.qo (Su.Ce.mk (Su.Ce.f x1) (Su.Ce.t x1) x1.3 x1.4 x1.5 (Su.Jl x1.6 x5) (Su.Ce.sl x1) x1.8) (Su.Cc.type x2)) (Su.Cc.type x2)) then
  some (.inr (.ret (true,(false,((0:Int),((0:Int),[]))))))
 else
  (bif ((true&&(Nat.beq p0.2.2.2.2.2.2.2.2.2.2.2.2.2.2.2.2.2.2.2.2.2.2.2.2.2.2.2.2.2.2.2.2.2.1 (List.length p0.2.2.2.2.2.2.2.2.2.2.2.2.2.2.2.2.2.2.2.2.2.2.2.2.2.2.2.2.1)))&&(Nat.ble ((List.length p0.2.2.2.2.2.2.2.2.2.2.2.2.2.2.2.2.2.2.2.2.2.2.2.2.2.2.2.2.1)+(List.length [(Su.view 14 (Su.qo (Su.Ce.mk (Su.Ce.f x1) (Su.Ce.t x1) x1.3 x1.4 x1.5 (Su.Jl x1.6 x5) (Su.Ce.sl x1) x1.8) (Su.Cc.type x2)))])) 549755813888)) then
  some (.inl (p0.1,(p0.2.1,(p0.2.2.1,(p0.2.2.2.1,(p0.2.2.2.2.1,(p0.2.2.2.2.2.1,(p0.2.2.2.2.2.2.1,(p0.2.2.2.2.2.2.2.1,(p0.2.2.2.2.2.2.2.2.1,(p0.2.2.2.2.2.2.2.2.2.1,(p0.2.2.2.2.2.2.2.2.2.2.1,(p0.2.2.2.2.2.2.2.2.2.2.2.1,(p0.2.2.2.2.2.2.2.2.2.2.2.2.1,(p0.2.2.2.2.2.2.2.2.2.2.2.2.2.1,(p0.2.2.2.2.2.2.2.2.2.2.2.2.2.2.1,(p0.2.2.2.2.2.2.2.2.2.2.2.2.2.2.2.1,(p0.2.2.2.2.2.2.2.2.2.2.2.2.2.2.2.2.1,(p0.2.2.2.2.2.2.2.2.2.2.2.2.2.2.2.2.2.1,(p0.2.2.2.2.2.2.2.2.2.2.2.2.2.2.2.2.2.2.1,(p0.2.2.2.2.2.2.2.2.2.2.2.2.2.2.2.2.2.2.2.1,(p0.2.2.2.2.2.2.2.2.2.2.2.2.2.2.2.2.2.2.2.2.1,((Go.IntKind.wrap .i64 (p0.2.2.2.2.2.2.2.2.2.2.2.2.2.2.2.2.2.2.2.2.2.1+1)),(p0.2.2.2.2.2.2.2.2.2.2.2.2.2.2.2.2.2.2.2.2.2.2.1,(p0.2.2.2.2.2.2.2.2.2.2.2.2.2.2.2.2.2.2.2.2.2.2.2.1,(p0.2.2.2.2.2.2.2.2.2.2.2.2.2.2.2.2.2.2.2.2.2.2.2.2.1,(p0.2.2.2.2.2.2.2.2.2.2.2.2.2.2.2.2.2.2.2.2.2.2.2.2.2.1,(p0.2.2.2.2.2.2.2.2.2.2.2.2.2.2.2.2.2.2.2.2.2.2.2.2.2.2.1,(p0.2.2.2.2.2.2.2.2.2.2.2.2.2.2.2.2.2.2.2.2.2.2.2.2.2.2.2.1,((p0.2.2.2.2.2.2.2.2.2.2.2.2.2.2.2.2.2.2.2.2.2.2.2.2.2.2.2.2.1++[(Su.view 14 (Su.qo (Su.Ce.mk (Su.Ce.f x1) (Su.Ce.t x1) x1.3 x1.4 x1.5 (Su.Jl x1.6 x5) (Su.Ce.sl x1) x1.8) (Su.Cc.type x2)))]),(p0.2.2.2.2.2.2.2.2.2.2.2.2.2.2.2.2.2.2.2.2.2.2.2.2.2.2.2.2.2.1,(p0.2.2.2.2.2.2.2.2.2.2.2.2.2.2.2.2.2.2.2.2.2.2.2.2.2.2.2.2.2.2.1,(p0.2.2.2.2.2.2.2.2.2.2.2.2.2.2.2.2.2.2.2.2.2.2.2.2.2.2.2.2.2.2.2.1,(p0.2.2.2.2.2.2.2.2.2.2.2.2.2.2.2.2.2.2.2.2.2.2.2.2.2.2.2.2.2.2.2.2.1,((List.length (p0.2.2.2.2.2.2.2.2.2.2.2.2.2.2.2.2.2.2.2.2.2.2.2.2.2.2.2.2.1++[(Su.view 14 (Su.qo (Su.Ce.mk (Su.Ce.f x1) (Su.Ce.t x1) x1.3 x1.4 x1.5 (Su.Jl x1.6 x5) (Su.Ce.sl x1) x1.8) (Su.Cc.type x2)))])),())))))))))))))))))))))))))))))))))))
 else
  none)))
 else
  some (.inr (.exit 0 (p0.1,(p0.2.1,(p0.2.2.1,(p0.2.2.2.1,(p0.2.2.2.2.1,(p0.2.2.2.2.2.1,(p0.2.2.2.2.2.2.1,(p0.2.2.2.2.2.2.2.1,(p0.2.2.2.2.2.2.2.2.1,(p0.2.2.2.2.2.2.2.2.2.1,(p0.2.2.2.2.2.2.2.2.2.2.1,(p0.2.2.2.2.2.2.2.2.2.2.2.1,(p0.2.2.2.2.2.2.2.2.2.2.2.2.1,(p0.2.2.2.2.2.2.2.2.2.2.2.2.2.1,(p0.2.2.2.2.2.2.2.2.2.2.2.2.2.2.1,(p0.2.2.2.2.2.2.2.2.2.2.2.2.2.2.2.1,(p0.2.2.2.2.2.2.2.2.2.2.2.2.2.2.2.2.1,(p0.2.2.2.2.2.2.2.2.2.2.2.2.2.2.2.2.2.1,(p0.2.2.2.2.2.2.2.2.2.2.2.2.2.2.2.2.2.2.1,(p0.2.2.2.2.2.2.2.2.2.2.2.2.2.2.2.2.2.2.2.1,(p0.2.2.2.2.2.2.2.2.2.2.2.2.2.2.2.2.2.2.2.2.1,(p0.2.2.2.2.2.2.2.2.2.2.2.2.2.2.2.2.2.2.2.2.2.1,(p0.2.2.2.2.2.2.2.2.2.2.2.2.2.2.2.2.2.2.2.2.2.2.1,(p0.2.2.2.2.2.2.2.2.2.2.2.2.2.2.2.2.2.2.2.2.2.2.2.1,(p0.2.2.2.2.2.2.2.2.2.2.2.2.2.2.2.2.2.2.2.2.2.2.2.2.1,(p0.2.2.2.2.2.2.2.2.2.2.2.2.2.2.2.2.2.2.2.2.2.2.2.2.2.1,(p0.2.2.2.2.2.2.2.2.2.2.2.2.2.2.2.2.2.2.2.2.2.2.2.2.2.2.1,(p0.2.2.2.2.2.2.2.2.2.2.2.2.2.2.2.2.2.2.2.2.2.2.2.2.2.2.2.1,(p0.2.2.2.2.2.2.2.2.2.2.2.2.2.2.2.2.2.2.2.2.2.2.2.2.2.2.2.2.1,(p0.2.2.2.2.2.2.2.2.2.2.2.2.2.2.2.2.2.2.2.2.2.2.2.2.2.2.2.2.2.1,(p0.2.2.2.2.2.2.2.2.2.2.2.2.2.2.2.2.2.2.2.2.2.2.2.2.2.2.2.2.2.2.1,(p0.2.2.2.2.2.2.2.2.2.2.2.2.2.2.2.2.2.2.2.2.2.2.2.2.2.2.2.2.2.2.2.1,(p0.2.2.2.2.2.2.2.2.2.2.2.2.2.2.2.2.2.2.2.2.2.2.2.2.2.2.2.2.2.2.2.2.1,(p0.2.2.2.2.2.2.2.2.2.2.2.2.2.2.2.2.2.2.2.2.2.2.2.2.2.2.2.2.2.2.2.2.2.1,())))))))))))))))))))))))))))))))))))))
def qzX  (fu:Nat) (c:(Int×((List Su.Cc)×((List Su.T)×((List Su.T)×((List Su.T)×((List Su.T)×Int))))))) (s:(Bool×(Bool×(Int×(Int×(List Su.Ce)))))):Option (Bool×(Bool×(Int×(Int×(List Su.Ce))))) :=
 (bif s.1 then
 some (true,(false,((0:Int),((0:Int),[]))))
 else
  (bif (!(decide (((((List.length s.2.2.2.2):Nat):Int)=(((List.length c.2.1):Nat):Int))))) then
  some (true,(false,((0:Int),((0:Int),[]))))
 else
  (bif (Su.qH [(s.2.1,(s.2.2.1,s.2.2.2.1))]).1 then
  some (true,(false,((0:Int),((0:Int),[]))))
 else
  (itP fu (qcf) (c.1,(c.2.1,(c.2.2.1,(c.2.2.2.1,(c.2.2.2.2.1,(c.2.2.2.2.2.1,(c.2.2.2.2.2.2,(s.1,(s.2.1,(s.2.2.1,(s.2.2.2.1,(s.2.2.2.2,(c.1,(c.2.1,(c.2.2.1,(c.2.2.2.1,(c.2.2.2.2.1,(c.2.2.2.2.2.1,(c.2.2.2.2.2.2,(s.2.2.2.2,((((List.length s.2.2.2.2):Nat):Int),((0:Int),([],(false,(false,((0:Int),((0:Int),(0,([],(false,((Su.qH [(s.2.1,(s.2.2.1,s.2.2.2.1))]).1,((Su.qH [(s.2.1,(s.2.2.1,s.2.2.2.1))]).2.1,((Su.qH [(s.2.1,(s.2.2.1,s.2.2.2.1))]).2.2,(0,()))))))))))))))))))))))))))))))))))).bind fun x6 =>
  (match x6 with
 | .exit i7 p8=>(bif (Nat.beq i7 0) then
  ((Su.sub p8.2.2.2.2.2.2.2.2.2.2.2.2.2.2.2.2.2.2.2.2.2.2.2.2.2.2.2.2.1 0 p8.2.2.2.2.2.2.2.2.2.2.2.2.2.2.2.2.2.2.2.2.2.2.2.2.2.2.2.2.2.2.2.2.2.1)).bind fun x9 =>
  (((((Su.unR (Su.rCe) x9)).bind fun x10 =>
  some (p8.2.2.2.2.2.2.2.2.2.2.2.2.2.2.2.2.2.2.2.2.2.2.2.2.2.2.2.2.2.2.2.2.1,x10)).bind fun x11 =>
  some (p8.2.2.2.2.2.2.2.2.2.2.2.2.2.2.2.2.2.2.2.2.2.2.2.2.2.2.2.2.2.2.2.1,x11)).bind fun x12 =>
  some (p8.2.2.2.2.2.2.2.2.2.2.2.2.2.2.2.2.2.2.2.2.2.2.2.2.2.2.2.2.2.2.1,x12)).bind fun x13 =>
  some (p8.2.2.2.2.2.2.2.2.2.2.2.2.2.2.2.2.2.2.2.2.2.2.2.2.2.2.2.2.2.1,x13)
 else
  none)
 | .ret o14=>some o14))))
def qqP (s:StD) (x:Su.Ce):Iv:=Jt x.i (x.d,x.p) (stK s)
def qge (s:StD) (x:Su.Ce):Ckp:=Zk (x.d,x.p) (jm (qqP s x) (stK s))
def Zr (s:StD) (_:Nat) (d:Su.Cc) (x:Su.Ce):Su.Ce :=
 bif decide (d.type=2) then ⟨x.f,x.t,qqP s x,(qge s x).1,(qge s x).2,Jl x.s (Jb x.fm),x.sl,x.fm⟩
 else ⟨x.f,x.t,x.i,x.d,x.p,Jl x.s (Jb x.fm),x.sl,x.fm⟩
theorem qu9 {s:StD} (h:smS s=true) {x:Su.Ce} (hx:x∈s.2.2.2.2):Z1 x.fm=some (Jb x.fm):=by
 unfold smS at h
 rw [Bool.and_eq_true] at h
 have:=Nat.le_of_ble_eq_true (List.all_eq_true.1 h.2 x hx)
 unfold Z1 qhb
 rw [Nat.ble_eq_true_of_le (by omega),cond_true]
theorem qzY (c:CoD) (s:StD) (K:Iv) (hl:s.2.2.2.2.length=c.2.1.length) (hs:s.2.2.2.2.length≤1000000) (hm:smS s=true) :
 jN (c.2.1.length+1) qcf (YJ c s K ((0:Nat):Int) []) (qfQ (.ret ji) (fun P=>.exit 0 (YJ c s K (c.2.1.length:Int) P)) (qP (q9 c.2.1 s.2.2.2.2 (Zr s)) c.2.1.length)):=by
 have hmx:s.2.2.2.2.length≤maxLen:=by rw [qF];omega
 refine yi (mk:=fun i P=>YJ c s K (i:Int) P) ?_ ?_ ?_
 · intro i P x hi hP ho
   have i1:i<s.2.2.2.2.length:=by omega
   unfold q9 at ho
   rw [List.getElem?_eq_getElem hi,List.getElem?_eq_getElem i1] at ho
   simp only [] at ho
   have hb:Nat.ble (P.length+1) 549755813888=true:=Nat.ble_eq_true_of_le (by omega)
   have hsp:=qu9 hm (List.getElem_mem i1)
   unfold YJ
   simp only [qcf,ltN,decide_eq_true i1,cond_true,ixl i1,ixl hi,Option.bind_some]
   generalize c.2.1[i]=d at *
   generalize s.2.2.2.2[i]=x0 at *
   by_cases t1:d.type=2
   · have e1:=decide_eq_true t1
     have hf:(Zr s) i d x0=⟨x0.f,x0.t,qqP s x0,(qge s x0).1,(qge s x0).2,Jl x0.s (Jb x0.fm),x0.sl,x0.fm⟩:=by unfold Zr;rw [e1];rfl
     rw [hf] at ho
     refine (qz e1).trans ((obB hsp rfl).trans ?_)
     rcases Bool.eq_false_or_eq_true (qJ (qo (⟨x0.f,x0.t,qqP s x0,(qge s x0).1,(qge s x0).2,Jl x0.s (Jb x0.fm),x0.sl,x0.fm⟩) d.type) d.type) with hn | hn
     · exact absurd ((qz hn).symm.trans ho) (by simp)
     · have:=soi ((qt hn).symm.trans ho);subst this
       refine (qt hn).trans ?_
       simp only [List.length_map,List.length_cons,List.length_nil,Nat.zero_add,Zj,hb,Bool.and_self,cond_true,yG,w1 i1 hmx]
       all_goals rfl
   · have e1:=decide_eq_false t1
     have hf:(Zr s) i d x0=⟨x0.f,x0.t,x0.i,x0.d,x0.p,Jl x0.s (Jb x0.fm),x0.sl,x0.fm⟩:=by unfold Zr;rw [e1];rfl
     rw [hf] at ho
     refine (qt e1).trans ((obB hsp rfl).trans ?_)
     rcases Bool.eq_false_or_eq_true (qJ (qo (⟨x0.f,x0.t,x0.i,x0.d,x0.p,Jl x0.s (Jb x0.fm),x0.sl,x0.fm⟩) d.type) d.type) with hn | hn
     · exact absurd ((qz hn).symm.trans ho) (by simp)
     · have:=soi ((qt hn).symm.trans ho);subst this
       refine (qt hn).trans ?_
       simp only [List.length_map,List.length_cons,List.length_nil,Nat.zero_add,Zj,hb,Bool.and_self,cond_true,yG,w1 i1 hmx]
       all_goals rfl
 · intro i P hi hP ho
   have i1:i<s.2.2.2.2.length:=by omega
   unfold q9 at ho
   rw [List.getElem?_eq_getElem hi,List.getElem?_eq_getElem i1] at ho
   simp only [] at ho
   have hb:Nat.ble (P.length+1) 549755813888=true:=Nat.ble_eq_true_of_le (by omega)
   have hsp:=qu9 hm (List.getElem_mem i1)
   unfold YJ
   simp only [qcf,ltN,decide_eq_true i1,cond_true,ixl i1,ixl hi,Option.bind_some]
   generalize c.2.1[i]=d at *
   generalize s.2.2.2.2[i]=x0 at *
   by_cases t1:d.type=2
   · have e1:=decide_eq_true t1
     have hf:(Zr s) i d x0=⟨x0.f,x0.t,qqP s x0,(qge s x0).1,(qge s x0).2,Jl x0.s (Jb x0.fm),x0.sl,x0.fm⟩:=by unfold Zr;rw [e1];rfl
     rw [hf] at ho
     refine (qz e1).trans ((obB hsp rfl).trans ?_)
     rcases Bool.eq_false_or_eq_true (qJ (qo (⟨x0.f,x0.t,qqP s x0,(qge s x0).1,(qge s x0).2,Jl x0.s (Jb x0.fm),x0.sl,x0.fm⟩) d.type) d.type) with hn | hn
     · exact (qz hn).trans rfl
     · exact absurd ((qt hn).symm.trans ho) (by simp)
   · have e1:=decide_eq_false t1
     have hf:(Zr s) i d x0=⟨x0.f,x0.t,x0.i,x0.d,x0.p,Jl x0.s (Jb x0.fm),x0.sl,x0.fm⟩:=by unfold Zr;rw [e1];rfl
     rw [hf] at ho
     refine (qt e1).trans ((obB hsp rfl).trans ?_)
     rcases Bool.eq_false_or_eq_true (qJ (qo (⟨x0.f,x0.t,x0.i,x0.d,x0.p,Jl x0.s (Jb x0.fm),x0.sl,x0.fm⟩) d.type) d.type) with hn | hn
     · exact (qz hn).trans rfl
     · exact absurd ((qt hn).symm.trans ho) (by simp)
 · intro P hP
   unfold YJ
   simp only [qcf,ltN,hl,decide_eq_false (Nat.lt_irrefl _),cond_false]
def qcg (c:CoD) (s:StD):StD:=qC c s (Zr s)
def qfT (p:CoD×StD):Option StD:=bif smS p.2 then some (qcg p.1 p.2) else none
theorem qzZ (p:CoD×StD) (y:StD) (hg:(dc cCo (d1 cSt)).good p) (h:qfT p=some y):∃ n,qzX n p.1 p.2=some y:=by
 obtain ⟨c,s⟩:=p
 obtain ⟨hm,h⟩:=qj h
 have:=soi h;subst this
 have hm:smS s=true:=hm
 refine ⟨c.2.1.length+1,?_⟩
 show qzX (c.2.1.length+1) c s=some (qcg c s)
 unfold qzX qcg
 rcases Bool.eq_false_or_eq_true s.1 with hd | hd
 · rw [show qC c s _=ji from qz hd];exact qz hd
 · refine (qt hd).trans ?_
   by_cases hl:s.2.2.2.2.length=c.2.1.length
   · refine (qt (by rw [lnE,decide_eq_true hl];rfl)).trans ?_
     rcases Bool.eq_false_or_eq_true (qH [stK s]).1 with hK | hK
     · rw [show qC c s _=ji from (qt hd).trans ((qt (by rw [decide_eq_true hl];rfl)).trans (qz hK))]
       exact qz hK
     · refine (qt hK).trans ?_
       rw [jP _ hd hl hK]
       have hr:=qzY c s (qH [stK s]) hl (Jv hm) hm _ (Nat.le_refl _)
       refine obB hr ?_
       cases hb:qP (q9 c.2.1 s.2.2.2.2 (Zr s)) c.2.1.length with
       | none=>rfl
       | some P=>exact obB (Z5 P) (qqN P (qH [stK s]) false)
   · rw [show qC c s _=ji from (qt hd).trans (qz (by rw [decide_eq_false hl];rfl))]
     exact qz (by rw [lnE,decide_eq_false hl];rfl)
end
end Su
end
section
namespace Su
open Go Fly
set_option linter.unusedVariables false
noncomputable section
abbrev Zs:=(Int×((List Su.Cc)×((List Su.T)×((List Su.T)×((List Su.T)×((List Su.T)×(Int×((List Su.Ce)×(Int×(Int×((List Su.T)×(Bool×(Bool×(Int×(Int×(Nat×((List Su.T)×(Bool×(Bool×(Int×(Int×(Nat×Unit))))))))))))))))))))))
def J8:Zs→Option (Zs ⊕ (Lp Zs (Bool×(Bool×(Int×(Int×(List Su.Ce))))))):=fun p1=>(bif (decide ((p1.2.2.2.2.2.2.2.2.2.1<p1.2.2.2.2.2.2.2.2.1))) then
 ((Su.idx p1.2.2.2.2.2.2.2.1 p1.2.2.2.2.2.2.2.2.2.1)).bind fun x2 =>
 ((Su.idx p1.2.1 p1.2.2.2.2.2.2.2.2.2.1)).bind fun x3 =>
 (bif (Su.qJ (Su.qo (Su.Ce.mk (Su.Ce.f x2) (Su.Ce.t x2) x2.3 x2.4 x2.5 x2.6 (Su.Ce.sl x2) (true,((0:Int),([],(0:Int))))) (Su.Cc.type x3)) (Su.Cc.type x3)) then
 some (.inr (.ret (true,(false,((0:Int),((0:Int),[]))))))
 else
  (bif ((true&&(Nat.beq p1.2.2.2.2.2.2.2.2.2.2.2.2.2.2.2.2.2.2.2.2.2.1 (List.length p1.2.2.2.2.2.2.2.2.2.2.2.2.2.2.2.2.1)))&&(Nat.ble ((List.length p1.2.2.2.2.2.2.2.2.2.2.2.2.2.2.2.2.1)+(List.length [(Su.view 14 (Su.qo (Su.Ce.mk (Su.Ce.f x2) (Su.Ce.t x2) x2.3 x2.4 x2.5 x2.6 (Su.Ce.sl x2) (true,((0:Int),([],(0:Int))))) (Su.Cc.type x3)))])) 549755813888)) then
  some (.inl (p1.1,(p1.2.1,(p1.2.2.1,(p1.2.2.2.1,(p1.2.2.2.2.1,(p1.2.2.2.2.2.1,(p1.2.2.2.2.2.2.1,(p1.2.2.2.2.2.2.2.1,(p1.2.2.2.2.2.2.2.2.1,((Go.IntKind.wrap .i64 (p1.2.2.2.2.2.2.2.2.2.1+1)),(p1.2.2.2.2.2.2.2.2.2.2.1,(p1.2.2.2.2.2.2.2.2.2.2.2.1,(p1.2.2.2.2.2.2.2.2.2.2.2.2.1,(p1.2.2.2.2.2.2.2.2.2.2.2.2.2.1,(p1.2.2.2.2.2.2.2.2.2.2.2.2.2.2.1,(p1.2.2.2.2.2.2.2.2.2.2.2.2.2.2.2.1,((p1.2.2.2.2.2.2.2.2.2.2.2.2.2.2.2.2.1++[(Su.view 14 (Su.qo (Su.Ce.mk (Su.Ce.f x2) (Su.Ce.t x2) x2.3 x2.4 x2.5 x2.6 (Su.Ce.sl x2) (true,((0:Int),([],(0:Int))))) (Su.Cc.type x3)))]),(p1.2.2.2.2.2.2.2.2.2.2.2.2.2.2.2.2.2.1,(p1.2.2.2.2.2.2.2.2.2.2.2.2.2.2.2.2.2.2.1,(p1.2.2.2.2.2.2.2.2.2.2.2.2.2.2.2.2.2.2.2.1,(p1.2.2.2.2.2.2.2.2.2.2.2.2.2.2.2.2.2.2.2.2.1,((List.length (p1.2.2.2.2.2.2.2.2.2.2.2.2.2.2.2.2.1++[(Su.view 14 (Su.qo (Su.Ce.mk (Su.Ce.f x2) (Su.Ce.t x2) x2.3 x2.4 x2.5 x2.6 (Su.Ce.sl x2) (true,((0:Int),([],(0:Int))))) (Su.Cc.type x3)))])),())))))))))))))))))))))))
 else
  none))
 else
  some (.inr (.exit 0 (p1.1,(p1.2.1,(p1.2.2.1,(p1.2.2.2.1,(p1.2.2.2.2.1,(p1.2.2.2.2.2.1,(p1.2.2.2.2.2.2.1,(p1.2.2.2.2.2.2.2.1,(p1.2.2.2.2.2.2.2.2.1,(p1.2.2.2.2.2.2.2.2.2.1,(p1.2.2.2.2.2.2.2.2.2.2.1,(p1.2.2.2.2.2.2.2.2.2.2.2.1,(p1.2.2.2.2.2.2.2.2.2.2.2.2.1,(p1.2.2.2.2.2.2.2.2.2.2.2.2.2.1,(p1.2.2.2.2.2.2.2.2.2.2.2.2.2.2.1,(p1.2.2.2.2.2.2.2.2.2.2.2.2.2.2.2.1,(p1.2.2.2.2.2.2.2.2.2.2.2.2.2.2.2.2.1,(p1.2.2.2.2.2.2.2.2.2.2.2.2.2.2.2.2.2.1,(p1.2.2.2.2.2.2.2.2.2.2.2.2.2.2.2.2.2.2.1,(p1.2.2.2.2.2.2.2.2.2.2.2.2.2.2.2.2.2.2.2.1,(p1.2.2.2.2.2.2.2.2.2.2.2.2.2.2.2.2.2.2.2.2.1,(p1.2.2.2.2.2.2.2.2.2.2.2.2.2.2.2.2.2.2.2.2.2.1,())))))))))))))))))))))))))
def qiU  (fu:Nat) (c:(Int×((List Su.Cc)×((List Su.T)×((List Su.T)×((List Su.T)×((List Su.T)×Int))))))) (s:(Bool×(Bool×(Int×(Int×(List Su.Ce)))))):Option (Bool×(Bool×(Int×(Int×(List Su.Ce))))) :=
 ((Su.qfT (c,s))).bind fun x0 =>
 (bif x0.1 then
 some (true,(false,((0:Int),((0:Int),[]))))
 else
  (bif (!(decide (((((List.length x0.2.2.2.2):Nat):Int)=(((List.length c.2.1):Nat):Int))))) then
  some (true,(false,((0:Int),((0:Int),[]))))
 else
  (bif (Su.qH [(x0.2.1,(x0.2.2.1,x0.2.2.2.1))]).1 then
  some (true,(false,((0:Int),((0:Int),[]))))
 else
  (itP fu (J8) (c.1,(c.2.1,(c.2.2.1,(c.2.2.2.1,(c.2.2.2.2.1,(c.2.2.2.2.2.1,(c.2.2.2.2.2.2,(x0.2.2.2.2,((((List.length x0.2.2.2.2):Nat):Int),((0:Int),([],(false,(false,((0:Int),((0:Int),(0,([],(false,((Su.qH [(x0.2.1,(x0.2.2.1,x0.2.2.2.1))]).1,((Su.qH [(x0.2.1,(x0.2.2.1,x0.2.2.2.1))]).2.1,((Su.qH [(x0.2.1,(x0.2.2.1,x0.2.2.2.1))]).2.2,(0,()))))))))))))))))))))))).bind fun x4 =>
  (match x4 with
 | .exit i5 p6=>(bif (Nat.beq i5 0) then
  ((Su.sub p6.2.2.2.2.2.2.2.2.2.2.2.2.2.2.2.2.1 0 p6.2.2.2.2.2.2.2.2.2.2.2.2.2.2.2.2.2.2.2.2.2.1)).bind fun x7 =>
  (((((Su.unR (Su.rCe) x7)).bind fun x8 =>
  some (p6.2.2.2.2.2.2.2.2.2.2.2.2.2.2.2.2.2.2.2.2.1,x8)).bind fun x9 =>
  some (p6.2.2.2.2.2.2.2.2.2.2.2.2.2.2.2.2.2.2.2.1,x9)).bind fun x10 =>
  some (p6.2.2.2.2.2.2.2.2.2.2.2.2.2.2.2.2.2.2.1,x10)).bind fun x11 =>
  some (p6.2.2.2.2.2.2.2.2.2.2.2.2.2.2.2.2.2.1,x11)
 else
  none)
 | .ret o12=>some o12))))
def qhi:Bool×Int×List Su.Tm×Int:=(true,(0,([],0)))
def Yz (_:Nat) (_:Su.Cc) (x:Su.Ce):Su.Ce:=⟨x.f,x.t,x.i,x.d,x.p,x.s,x.sl,qhi⟩
theorem qli {c:CoD} {s:StD} {f:Nat→Su.Cc→Su.Ce→Su.Ce}:(qC c s f).2.2.2.2.length≤s.2.2.2.2.length:=by
 unfold qC
 rcases Bool.eq_false_or_eq_true s.1 with hd | hd
 · rw [qz hd];exact Nat.zero_le _
 · rw [qt hd]
   by_cases hl:s.2.2.2.2.length=c.2.1.length
   · rw [qt (by rw [decide_eq_true hl];rfl)]
     rcases Bool.eq_false_or_eq_true (qH [stK s]).1 with hK | hK
     · rw [qz hK];exact Nat.zero_le _
     · rw [qt hK]
       cases hb:qP (q9 c.2.1 s.2.2.2.2 f) c.2.1.length with
       | none=>exact Nat.zero_le _
       | some P=>show P.length≤_;rw [jl hb,hl];exact Nat.le_refl _
   · rw [qz (by rw [decide_eq_false hl];rfl)];exact Nat.zero_le _
theorem qqQ (c:CoD) (s:StD) (K:Iv) (hl:s.2.2.2.2.length=c.2.1.length) (hs:s.2.2.2.2.length≤1000000) :
 jN (c.2.1.length+1) J8 (YI c s K ((0:Nat):Int) []) (qfQ (.ret ji) (fun P=>.exit 0 (YI c s K (c.2.1.length:Int) P)) (qP (q9 c.2.1 s.2.2.2.2 (Yz)) c.2.1.length)):=by
 have hmx:s.2.2.2.2.length≤maxLen:=by rw [qF];omega
 refine yi (mk:=fun i P=>YI c s K (i:Int) P) ?_ ?_ ?_
 · intro i P x hi hP ho
   have i1:i<s.2.2.2.2.length:=by omega
   unfold q9 at ho
   rw [List.getElem?_eq_getElem hi,List.getElem?_eq_getElem i1] at ho
   simp only [] at ho
   have hb:Nat.ble (P.length+1) 549755813888=true:=Nat.ble_eq_true_of_le (by omega)
   unfold YI
   simp only [J8,ltN,decide_eq_true i1,cond_true,ixl i1,ixl hi,Option.bind_some]
   generalize c.2.1[i]=d at *
   generalize s.2.2.2.2[i]=x0 at *
   have hf:Yz i d x0=⟨x0.f,x0.t,x0.i,x0.d,x0.p,x0.s,x0.sl,qhi⟩:=by rfl
   rw [hf] at ho
   rcases Bool.eq_false_or_eq_true (qJ (qo (⟨x0.f,x0.t,x0.i,x0.d,x0.p,x0.s,x0.sl,qhi⟩) d.type) d.type) with hn | hn
   · exact absurd ((qz hn).symm.trans ho) (by simp)
   · have:=soi ((qt hn).symm.trans ho);subst this
     refine (qt hn).trans ?_
     simp only [List.length_map,List.length_cons,List.length_nil,Nat.zero_add,Zj,hb,Bool.and_self,cond_true,yG,w1 i1 hmx]
     all_goals rfl
 · intro i P hi hP ho
   have i1:i<s.2.2.2.2.length:=by omega
   unfold q9 at ho
   rw [List.getElem?_eq_getElem hi,List.getElem?_eq_getElem i1] at ho
   simp only [] at ho
   have hb:Nat.ble (P.length+1) 549755813888=true:=Nat.ble_eq_true_of_le (by omega)
   unfold YI
   simp only [J8,ltN,decide_eq_true i1,cond_true,ixl i1,ixl hi,Option.bind_some]
   generalize c.2.1[i]=d at *
   generalize s.2.2.2.2[i]=x0 at *
   have hf:Yz i d x0=⟨x0.f,x0.t,x0.i,x0.d,x0.p,x0.s,x0.sl,qhi⟩:=by rfl
   rw [hf] at ho
   rcases Bool.eq_false_or_eq_true (qJ (qo (⟨x0.f,x0.t,x0.i,x0.d,x0.p,x0.s,x0.sl,qhi⟩) d.type) d.type) with hn | hn
   · exact (qz hn).trans rfl
   · exact absurd ((qt hn).symm.trans ho) (by simp)
 · intro P hP
   unfold YI
   simp only [J8,ltN,hl,decide_eq_false (Nat.lt_irrefl _),cond_false]
def jR (c:CoD) (s:StD):StD:=qC c (qcg c s) Yz
def qch (p:CoD×StD):Option StD:=bif smS p.2 then some (jR p.1 p.2) else none
theorem qqR (p:CoD×StD) (y:StD) (hg:(dc cCo (d1 cSt)).good p) (h:qch p=some y):∃ n,qiU n p.1 p.2=some y:=by
 obtain ⟨c,s⟩:=p
 obtain ⟨hm,h⟩:=qj h
 have:=soi h;subst this
 have hm:smS s=true:=hm
 refine ⟨c.2.1.length+1,?_⟩
 show qiU (c.2.1.length+1) c s=some (jR c s)
 unfold qiU jR
 refine obB (x:=qcg c s) (show qfT (c,s)=_ from by unfold qfT;rw [show smS (c,s).2=true from hm];rfl) ?_
 have hm:=Nat.le_trans (qli (c:=c) (s:=s) (f:=Zr s)) (Jv hm)
 have hm:(qcg c s).2.2.2.2.length≤1000000:=hm
 generalize qcg c s=s at *
 rcases Bool.eq_false_or_eq_true s.1 with hd | hd
 · rw [show qC c s _=ji from qz hd];exact qz hd
 · refine (qt hd).trans ?_
   by_cases hl:s.2.2.2.2.length=c.2.1.length
   · refine (qt (by rw [lnE,decide_eq_true hl];rfl)).trans ?_
     rcases Bool.eq_false_or_eq_true (qH [stK s]).1 with hK | hK
     · rw [show qC c s _=ji from (qt hd).trans ((qt (by rw [decide_eq_true hl];rfl)).trans (qz hK))]
       exact qz hK
     · refine (qt hK).trans ?_
       rw [jP _ hd hl hK]
       have hr:=qqQ c s (qH [stK s]) hl hm _ (Nat.le_refl _)
       refine obB hr ?_
       cases hb:qP (q9 c.2.1 s.2.2.2.2 (Yz)) c.2.1.length with
       | none=>rfl
       | some P=>exact obB (Z5 P) (qqN P (qH [stK s]) false)
   · rw [show qC c s _=ji from (qt hd).trans (qz (by rw [decide_eq_false hl];rfl))]
     exact qz (by rw [lnE,decide_eq_false hl];rfl)
end
end Su
end
section
namespace Su
open Go Fly
set_option linter.unusedVariables false
noncomputable section
def qCO  (f:Int):Option (Bool×((List Int)×(List Int))) :=
 ((Su.yB (((Su.qfq (Int.toNat f)):Nat):Int))).bind fun x0 =>
 some x0.1
def qlj (f:Int):Rt:=bif j7 (qfq f.toNat) then (false,([],[])) else yo (qfq f.toNat)
def Z6 (f:Int):Option Rt:=bif okS [] then some (qlj f) else none
theorem qva (f:Int) (y:Rt) (hg:(d1 (cI .u64)).good f) (h:Z6 f=some y):qCO f=some y:=by
 obtain ⟨_,h⟩:=qj h
 have:=soi h;subst this
 refine obB (qet _) ?_
 unfold qlj
 rw [Int.toNat_natCast]
 cases j7 (qfq f.toNat) <;> rfl
end
end Su
end
section
namespace Su
open Go Fly
set_option linter.unusedVariables false
noncomputable section
structure Fin4 (a:Su.Fm):Prop where
 mid:fI a.2.1=true
 err:fI a.2.2.2=true
 tms:∀ t∈a.2.2.1,fI t.c=true
theorem qlk:∀ {l:List Tm} {k:Int},J3 k l=true→∀ t∈l,fI t.c=true
 | [],_,_,t,ht=>by cases ht
 | x::l,k,h,t,ht=>by
  simp only [J3,Bool.and_eq_true] at h
  rcases List.mem_cons.1 ht with rfl | ht
  · exact h.2.2.1
  · exact qlk h.2.2.2 t ht
theorem qz0 {a:Su.Fm} (h:okF a=true):a.1=false∧Fin4 a:=by
 unfold okF at h
 simp only [Bool.not_eq_true',Bool.or_eq_false_iff,Bool.not_eq_false'] at h
 obtain ⟨h1,h2⟩:=h
 rw [qoz,h1,cond_false] at h2
 simp only [Bool.and_eq_true] at h2
 exact ⟨h1,⟨h2.2.1,h2.2.2.2.1,qlk h2.1⟩⟩
def avF (c:Int):Nat:=(fv c.toNat).natAbs
def qz1:List Tm→Nat→Nat
 | [],s=>s
 | t::l,s=>qz1 l (s+avF t.c)
def qm5 (a:Su.Fm):Nat:=qz1 a.2.2.1 (avF a.2.2.2)
theorem qiV (f:Nat):jz (bK f) = !j7 f:=by
 unfold j7
 rw [← qix]
 cases decide (((qE (bK f):Nat):Int)=3) <;> cases decide (((qE (bK f):Nat):Int)=4) <;> rfl
theorem qFl {c:Int} (h:fI c=true):j7 c.toNat=false:=by
 have:=qiV c.toNat
 unfold fI at h
 rw [h] at this
 cases hn:j7 c.toNat with
 | false=>rfl
 | true=>rw [hn] at this;cases this
theorem qCP (f:Nat):bK (bK f)=bK f:=Nat.mod_mod _ _
theorem qHF (f:Nat):bS (bK f)=false:=qfr.2 (qfs f)
theorem qiW (c:Int):avF c<2^BX:=qiS _
theorem qo3:∀ (l:List Tm) (s k:Nat),s<k*2^BX→qz1 l s<(k+l.length)*2^BX
 | [],s,k,h=>h
 | t::l,s,k,h=>by
  have h1:=qiW t.c
  have:=qo3 l (s+avF t.c) (k+1) (by rw [Nat.add_mul];omega)
  rw [List.length_cons,show k+(l.length+1)=k+1+l.length by omega]
  exact this
theorem qfU {p:Int} (h:p.natAbs<1048576*2^BX):Sz (mkQ p QD) 100:=by
 have h1:=quZ
 have h2:=quY
 refine qCM ?_ ?_ (by omega)
 · rw [JY,show 32*100=20+BX+1082 by omega,Nat.pow_add,Nat.pow_add]
   refine Nat.lt_of_lt_of_le h ?_
   rw [show (1048576:Nat)=2^20 from rfl]
   generalize (1082:Nat)=m
   exact Nat.le_mul_of_pos_right _ (Nat.two_pow_pos m)
 · rw [qoZ,JY,show 32*100=EX+2126 by omega];exact Nat.pow_lt_pow_right (by omega) (by omega)
theorem addD (p r:Int):qqq (mkQ p QD) (mkQ r QD)=mkQ (p+r) QD:=by
 rw [qoV p r Jf Jf,← Int.add_mul,J6 _ _ Jf]
theorem subD (p r:Int):qfG (mkQ p QD) (mkQ r QD)=mkQ (p-r) QD:=by
 rw [qzM p r Jf Jf,← Int.sub_mul,J6 _ _ Jf]
theorem cmpD (p r:Int):qmN (mkQ p QD) (mkQ r QD)=qam p r:=by
 rw [qzN p r Jf Jf,qfP _ _ Jf]
theorem qo4 (p r:Int):decide (qam p r≤0)=decide (p≤r):=by
 unfold qam
 by_cases h:p<r
 · rw [if_pos h,decide_eq_true (by omega),decide_eq_true (by omega)]
 · rw [if_neg h]
   by_cases h':p=r
   · rw [if_pos h',decide_eq_true (by omega),decide_eq_true (by omega)]
   · rw [if_neg h',decide_eq_false (by omega),decide_eq_false (by omega)]
def ofS (a:Su.Fm) (f:Int):Bool:=!j7 f.toNat&&(!okF a||decide ((fv f.toNat-fv a.2.1.toNat).natAbs≤qm5 a))
end
end Su
end
section
namespace Su
open Go Fly
set_option linter.unusedVariables false
noncomputable section
def qiX:((List Su.Tm)×(Int×(Int×(Bool×((List Int)×((List Int)×(Bool×((List Int)×((List Int)×(Bool×((List Int)×((List Int)×Unit))))))))))))→Option (((List Su.Tm)×(Int×(Int×(Bool×((List Int)×((List Int)×(Bool×((List Int)×((List Int)×(Bool×((List Int)×((List Int)×Unit)))))))))))) ⊕ ((List Su.Tm)×(Int×(Int×(Bool×((List Int)×((List Int)×(Bool×((List Int)×((List Int)×(Bool×((List Int)×((List Int)×Unit))))))))))))):=fun p4=>(bif (decide ((p4.2.2.1<p4.2.1))) then
 ((Su.idx p4.1 p4.2.2.1)).bind fun x5 =>
 ((Su.Z6 (Su.Tm.c x5))).bind fun x6 =>
 ((Su.Zd ((p4.2.2.2.2.2.2.2.2.2.1,(p4.2.2.2.2.2.2.2.2.2.2.1,p4.2.2.2.2.2.2.2.2.2.2.2.1)),x6))).bind fun x7 =>
 some (.inl (p4.1,(p4.2.1,((Go.IntKind.wrap .i64 (p4.2.2.1+1)),(p4.2.2.2.1,(p4.2.2.2.2.1,(p4.2.2.2.2.2.1,(p4.2.2.2.2.2.2.1,(p4.2.2.2.2.2.2.2.1,(p4.2.2.2.2.2.2.2.2.1,(x7.1,(x7.2.1,(x7.2.2,())))))))))))))
 else
  some (.inr (p4.1,(p4.2.1,(p4.2.2.1,(p4.2.2.2.1,(p4.2.2.2.2.1,(p4.2.2.2.2.2.1,(p4.2.2.2.2.2.2.1,(p4.2.2.2.2.2.2.2.1,(p4.2.2.2.2.2.2.2.2.1,(p4.2.2.2.2.2.2.2.2.2.1,(p4.2.2.2.2.2.2.2.2.2.2.1,(p4.2.2.2.2.2.2.2.2.2.2.2.1,()))))))))))))))
def aOf  (fu:Nat) (a:(Bool×(Int×((List Su.Tm)×Int)))) (f:Int):Option Bool :=
 ((Su.yB f)).bind fun x0 =>
 (bif (!x0.2) then
 some x0.2
 else
  (bif (List.any [a] (fun z1=>(z1.1||(!(Su.qaY z1))))) then
  some x0.2
 else
  ((Su.yB a.2.1)).bind fun x2 =>
  ((Su.Z6 a.2.2.2)).bind fun x3 =>
  (itP fu (qiX) (a.2.2.1,((((List.length a.2.2.1):Nat):Int),((0:Int),(x0.1.1,(x0.1.2.1,(x0.1.2.2,(x2.1.1,(x2.1.2.1,(x2.1.2.2,(x3.1,(x3.2.1,(x3.2.2,()))))))))))))).bind fun x8 =>
  ((Su.qaX ((x8.2.2.2.1,(x8.2.2.2.2.1,x8.2.2.2.2.2.1)),(x8.2.2.2.2.2.2.1,(x8.2.2.2.2.2.2.2.1,x8.2.2.2.2.2.2.2.2.1))))).bind fun x9 =>
  ((Su.qaU x9)).bind fun x10 =>
  ((Su.qaW (x10,(x8.2.2.2.2.2.2.2.2.2.1,(x8.2.2.2.2.2.2.2.2.2.2.1,x8.2.2.2.2.2.2.2.2.2.2.2.1))))).bind fun x11 =>
  some (decide ((x11≤0)))))
theorem qll {c:Int} (hg:inR .u64 c=true) (h:fI c=true):qlj c=mkQ (avF c:Int) QD:=by
 obtain ⟨n,rfl,hn⟩:=qO hg
 have h':jz (bK n)=true:=by have:=h;unfold fI at this;rwa [Int.toNat_natCast] at this
 have hnan:qU (bK n)=false:=Q7.2 (by have:=jv.1 h';omega)
 have hab:qfq n=bK n:=by unfold qfq;rw [hnan];rfl
 have hnum:j7 (bK n)=false:=by
  have:=qiV (bK n)
  rw [qCP,h'] at this
  cases hx:j7 (bK n) with
  | false=>rfl
  | true=>rw [hx] at this;cases this
 unfold qlj avF
 rw [Int.toNat_natCast,hab,hnum,cond_false,Yx]
 congr 1
 unfold fv fvK
 rw [qCP,qHF,h',cond_true,cond_true,cond_false]
 cases bS n <;> simp
abbrev OfS:=List Su.Tm×(Int×(Int×(Bool×(List Int×(List Int×(Bool×(List Int×(List Int×(Bool×(List Int×(List Int×Unit)))))))))))
def qz2 (l:List Su.Tm) (v m r:Rt) (i:Int):OfS:=(l,(((l.length:Nat):Int),(i,(v.1,(v.2.1,(v.2.2,(m.1,(m.2.1,(m.2.2,(r.1,(r.2.1,(r.2.2,()))))))))))))
theorem qlm (c:Int):Z6 c=some (qlj c):=by unfold Z6;rw [qbX,cond_true]
theorem qz3 {p r:Int} (h1:p.natAbs<1048576*2^BX) (h2:r.natAbs<1048576*2^BX):Zd (mkQ p QD,mkQ r QD)=some (mkQ (p+r) QD):=by
 unfold Zd
 simp only []
 rw [(qfU h1).ok4 (by omega),(qfU h2).ok4 (by omega),addD];rfl
theorem qo5 (l:List Su.Tm) (hl:l.length≤1000000) (hg:∀ t∈l,inR .u64 t.c=true) (hf:∀ t∈l,fI t.c=true) (v m:Rt):∀ (r A:List Su.Tm) (s k:Nat),A++r=l→s<k*2^BX→k+r.length≤1000010 →
 jN (r.length+1) qiX (qz2 l v m (mkQ (s:Int) QD) A.length) (qz2 l v m (mkQ ((qz1 r s:Nat):Int) QD) l.length)
 | [],A,s,k,h,_,_=>by
  rw [List.append_nil] at h;subst h
  refine jN.stop ?_
  unfold qz2
  simp only [qiX,ltN,decide_eq_false (Nat.lt_irrefl _),cond_false];rfl
 | x::r,A,s,k,h,hs,hk=>by
  have hm:l.length≤maxLen:=by rw [qF];omega
  have hi:A.length<l.length:=by rw [← h];simp
  have hx:x∈l:=by rw [← h];simp
  have hgx:idx l (A.length:Int)=some x:=by
   rw [jd,← h,List.getElem?_append_right (by omega),Nat.sub_self];rfl
  have ha:=qiW x.c
  have hs':s+avF x.c<(k+1)*2^BX:=by rw [Nat.add_mul];omega
  rw [List.length_cons] at hk
  have hbig:∀ z q:Nat,z<q*2^BX→q≤1048576→((z:Nat):Int).natAbs<1048576*2^BX:=fun z q h1 h2=>by
   rw [Int.natAbs_natCast];exact Nat.lt_of_lt_of_le h1 (Nat.mul_le_mul_right _ h2)
  have hadd:=qz3 (hbig s k hs (by omega)) (hbig (avF x.c) 1 (by omega) (by omega))
  have ih:=qo5 l hl hg hf v m r (A++[x]) (s+avF x.c) (k+1) (by rw [← h];simp) hs' (by omega)
  refine jN.next ?_ ih
  unfold qz2
  simp only [qiX,ltN,decide_eq_true hi,cond_true,hgx,Option.bind_some,w1 hi hm,qlm]
  rw [qll (hg x hx) (hf x hx)]
  refine obB hadd ?_
  rw [show (A++[x]).length=A.length+1 by simp]
  rfl
def qci (p:Su.Fm×Int):Option Bool:=bif Nat.ble p.1.2.2.1.length 1000000 then some (ofS p.1 p.2) else none
theorem qFm (p:Su.Fm×Int) (y:Bool) (hg:(dc yc (d1 (cI .u64))).good p) (h:qci p=some y):∃ n,aOf n p.1 p.2=some y:=by
 obtain ⟨a,f⟩:=p
 obtain ⟨hm,h⟩:=qj h
 have:=soi h;subst this
 have hl:a.2.2.1.length≤1000000:=Nat.le_of_ble_eq_true hm
 refine ⟨a.2.2.1.length+1,?_⟩
 show aOf (a.2.2.1.length+1) a f=some (ofS a f)
 have ha:List.any [a] (fun z0=>(z0.1||(!(Su.qaY z0)))) = !okF a:=by simp [okF]
 unfold aOf ofS
 refine obB (qet f) ?_
 rcases Bool.eq_false_or_eq_true (j7 f.toNat) with hn | hn
 · rw [hn];rfl
 · rw [hn]
   simp only [cond_false,Bool.not_true,Bool.not_false,Bool.true_and]
   rw [ha]
   rcases Bool.eq_false_or_eq_true (okF a) with ho | ho
   · obtain ⟨h0,hfin⟩:=qz0 ho
     rw [ho]
     simp only [cond_false,Bool.not_true,Bool.false_or]
     obtain ⟨-,g1,⟨g2,-⟩,g3⟩:=hg.1
     refine obB (qet a.2.1) ?_
     rw [qFl hfin.mid,cond_false]
     refine obB (qlm _) ?_
     rw [qll g3 hfin.err]
     have hrun:=qo5 a.2.2.1 hl (fun t ht=>(g2 t ht).2) hfin.tms (yo f.toNat) (yo a.2.1.toNat) a.2.2.1 [] (avF a.2.2.2) 1 rfl (by have:=qiW a.2.2.2;omega) (by omega)
     refine obB (hrun _ (Nat.le_refl _)) ?_
     have b1:=qiS f.toNat
     have b2:=qiS a.2.1.toNat
     have b3:(fv f.toNat-fv a.2.1.toNat).natAbs<1048576*2^BX:=by omega
     have b4:((qm5 a:Nat):Int).natAbs<1048576*2^BX:=by
      have:=qo3 a.2.2.1 (avF a.2.2.2) 1 (by have:=qiW a.2.2.2;omega)
      rw [Int.natAbs_natCast]
      exact Nat.lt_of_lt_of_le this (Nat.mul_le_mul_right _ (by omega))
     have z1:Sz (yo f.toNat) 100000:=(qcb _).mono (by omega)
     have z2:Sz (yo a.2.1.toNat) 100000:=(qcb _).mono (by omega)
     have s1:qaX (yo f.toNat,yo a.2.1.toNat)=some (mkQ (fv f.toNat-fv a.2.1.toNat) QD):=by
      rw [(qu0 z1 z2).1,Yx,Yx,subD]
     have s2:qaU (mkQ (fv f.toNat-fv a.2.1.toNat) QD)=some (mkQ ((fv f.toNat-fv a.2.1.toNat).natAbs:Int) QD):=by
      rw [(qu1 ((qfU b3).mono (by omega))).1,qoW _ Jf]
     have s3:qaW (mkQ ((fv f.toNat-fv a.2.1.toNat).natAbs:Int) QD,mkQ ((qm5 a:Nat):Int) QD)=some (qam ((fv f.toNat-fv a.2.1.toNat).natAbs:Int) (qm5 a:Int)):=by
      rw [qu2 ((qfU (by rw [Int.natAbs_natCast];exact b3)).mono (by omega)) ((qfU b4).mono (by omega)),cmpD]
     refine obB s1 (obB s2 (obB s3 ?_))
     rw [qo4]
     congr 1
     by_cases hle:(fv f.toNat-fv a.2.1.toNat).natAbs≤qm5 a
     · rw [decide_eq_true hle,decide_eq_true (by omega)]
     · rw [decide_eq_false hle,decide_eq_false (by omega)]
   · rw [ho];rfl
end
end Su
end
section
namespace Su
open Go Fly
set_option linter.unusedVariables false
noncomputable section
abbrev qc9:=((List Su.Vl)×(Int×(Int×((List Su.Cc)×((List Su.T)×((List Su.T)×((List Su.T)×((List Su.T)×(Int×((List Su.Ce)×(Int×(Int×Unit))))))))))))
def qcj:qc9→Option (qc9 ⊕ (Lp qc9 Bool)):=fun p0=>(bif (decide ((p0.2.2.2.2.2.2.2.2.2.2.2.1<p0.2.2.2.2.2.2.2.2.2.2.1))) then
 ((Su.idx p0.2.2.2.2.2.2.2.2.2.1 p0.2.2.2.2.2.2.2.2.2.2.2.1)).bind fun x1 =>
 ((Su.idx p0.2.2.2.1 p0.2.2.2.2.2.2.2.2.2.2.2.1)).bind fun x2 =>
 ((Su.idx p0.1 p0.2.2.2.2.2.2.2.2.2.2.2.1)).bind fun x3 =>
 (bif (!(decide (((Su.Vl.type x3)=(Su.Cc.type x2))))) then
 some (.inr (.ret false))
 else
  (bif (decide (((Su.Cc.type x2)=1))) then
  (bif (Su.Vl.b x3) then
  (bif (Su.Ce.t x1) then
  some (.inl (p0.1,(p0.2.1,(p0.2.2.1,(p0.2.2.2.1,(p0.2.2.2.2.1,(p0.2.2.2.2.2.1,(p0.2.2.2.2.2.2.1,(p0.2.2.2.2.2.2.2.1,(p0.2.2.2.2.2.2.2.2.1,(p0.2.2.2.2.2.2.2.2.2.1,(p0.2.2.2.2.2.2.2.2.2.2.1,((Go.IntKind.wrap .i64 (p0.2.2.2.2.2.2.2.2.2.2.2.1+1)),())))))))))))))
 else
  (bif (!(Su.Vl.b x3)) then
  (bif (!(Su.Ce.f x1)) then
  some (.inr (.ret false))
 else
  some (.inl (p0.1,(p0.2.1,(p0.2.2.1,(p0.2.2.2.1,(p0.2.2.2.2.1,(p0.2.2.2.2.2.1,(p0.2.2.2.2.2.2.1,(p0.2.2.2.2.2.2.2.1,(p0.2.2.2.2.2.2.2.2.1,(p0.2.2.2.2.2.2.2.2.2.1,(p0.2.2.2.2.2.2.2.2.2.2.1,((Go.IntKind.wrap .i64 (p0.2.2.2.2.2.2.2.2.2.2.2.1+1)),()))))))))))))))
 else
  some (.inr (.ret false))))
 else
  (bif (!(Su.Vl.b x3)) then
  (bif (!(Su.Ce.f x1)) then
  some (.inr (.ret false))
 else
  some (.inl (p0.1,(p0.2.1,(p0.2.2.1,(p0.2.2.2.1,(p0.2.2.2.2.1,(p0.2.2.2.2.2.1,(p0.2.2.2.2.2.2.1,(p0.2.2.2.2.2.2.2.1,(p0.2.2.2.2.2.2.2.2.1,(p0.2.2.2.2.2.2.2.2.2.1,(p0.2.2.2.2.2.2.2.2.2.2.1,((Go.IntKind.wrap .i64 (p0.2.2.2.2.2.2.2.2.2.2.2.1+1)),()))))))))))))))
 else
  some (.inr (.ret false))))
 else
  (bif (decide (((Su.Cc.type x2)=2))) then
  (bif (Su.qT x1.3 (Go.IntKind.wrap .i64 (Su.Vl.i x3))) then
  (bif (!(Su.J4 (x1.4,x1.5) (Go.IntKind.wrap .i64 (Su.Vl.i x3)) p0.2.1)) then
  some (.inr (.ret false))
 else
  some (.inl (p0.1,(p0.2.1,(p0.2.2.1,(p0.2.2.2.1,(p0.2.2.2.2.1,(p0.2.2.2.2.2.1,(p0.2.2.2.2.2.2.1,(p0.2.2.2.2.2.2.2.1,(p0.2.2.2.2.2.2.2.2.1,(p0.2.2.2.2.2.2.2.2.2.1,(p0.2.2.2.2.2.2.2.2.2.2.1,((Go.IntKind.wrap .i64 (p0.2.2.2.2.2.2.2.2.2.2.2.1+1)),()))))))))))))))
 else
  some (.inr (.ret false)))
 else
  (bif (decide (((Su.Cc.type x2)=3))) then
  (bif (Su.qau x1.6 (Su.Vl.f x3)) then
  ((Su.qci (x1.8,(Su.Vl.f x3)))).bind fun x4 =>
  (bif (!x4) then
  some (.inr (.ret false))
 else
  some (.inl (p0.1,(p0.2.1,(p0.2.2.1,(p0.2.2.2.1,(p0.2.2.2.2.1,(p0.2.2.2.2.2.1,(p0.2.2.2.2.2.2.1,(p0.2.2.2.2.2.2.2.1,(p0.2.2.2.2.2.2.2.2.1,(p0.2.2.2.2.2.2.2.2.2.1,(p0.2.2.2.2.2.2.2.2.2.2.1,((Go.IntKind.wrap .i64 (p0.2.2.2.2.2.2.2.2.2.2.2.1+1)),()))))))))))))))
 else
  some (.inr (.ret false)))
 else
  some (.inr (.ret false))))))
 else
  some (.inr (.exit 0 (p0.1,(p0.2.1,(p0.2.2.1,(p0.2.2.2.1,(p0.2.2.2.2.1,(p0.2.2.2.2.2.1,(p0.2.2.2.2.2.2.1,(p0.2.2.2.2.2.2.2.1,(p0.2.2.2.2.2.2.2.2.1,(p0.2.2.2.2.2.2.2.2.2.1,(p0.2.2.2.2.2.2.2.2.2.2.1,(p0.2.2.2.2.2.2.2.2.2.2.2.1,())))))))))))))))
def qz4  (fu:Nat) (c:(Int×((List Su.Cc)×((List Su.T)×((List Su.T)×((List Su.T)×((List Su.T)×Int))))))) (s:(Bool×(Bool×(Int×(Int×(List Su.Ce)))))) (row:(List Su.Vl)) (k:Int):Option Bool :=
 (bif s.1 then
 some false
 else
  (bif (!(decide (((((List.length s.2.2.2.2):Nat):Int)=(((List.length c.2.1):Nat):Int))))) then
  some false
 else
  (bif (!(decide (((((List.length row):Nat):Int)=(((List.length c.2.1):Nat):Int))))) then
  some false
 else
  (bif (!(Su.qT (s.2.1,(s.2.2.1,s.2.2.2.1)) k)) then
  some false
 else
  (itP fu (qcj) (row,(k,(c.1,(c.2.1,(c.2.2.1,(c.2.2.2.1,(c.2.2.2.2.1,(c.2.2.2.2.2.1,(c.2.2.2.2.2.2,(s.2.2.2.2,((((List.length s.2.2.2.2):Nat):Int),((0:Int),()))))))))))))).bind fun x5 =>
  (match x5 with
 | .exit i6 p7=>(bif (Nat.beq i6 0) then
  some true
 else
  none)
 | .ret o8=>some o8)))))
def YK (t:Int) (x:Su.Ce) (v:Su.Vl) (k:Int):Bool :=
 bif !decide (v.type=t) then false
 else bif decide (t=1) then (v.b&&x.t)||(!v.b&&x.f)
 else bif decide (t=2) then qT x.i v.i&&J4 (x.d,x.p) v.i k
 else bif decide (t=3) then qau x.s v.f&&ofS x.fm v.f
 else false
def hsN (C:List Su.Cc) (X:List Su.Ce) (row:List Su.Vl) (k:Int) (i:Nat):Bool :=
 match C[i]?,X[i]?,row[i]? with
 | some d,some x,some v=>YK d.type x v k
 | _,_,_=>true
def qan (c:CoD) (s:StD) (row:List Su.Vl) (k:Int):Bool :=
 bif s.1 then false else bif !decide (s.2.2.2.2.length=c.2.1.length) then false else bif !decide (row.length=c.2.1.length) then false
 else bif !qT (stK s) k then false else Yv c.2.1.length (hsN c.2.1 s.2.2.2.2 row k)
abbrev HsS:=List Su.Vl×(Int×(Int×(List Su.Cc×(List Su.T×(List Su.T×(List Su.T×(List Su.T×(Int×(List Su.Ce×(Int×(Int×Unit)))))))))))
def qqS (c:CoD) (s:StD) (row:List Su.Vl) (k i:Int):HsS :=
 (row,(k,(c.1,(c.2.1,(c.2.2.1,(c.2.2.2.1,(c.2.2.2.2.1,(c.2.2.2.2.2.1,(c.2.2.2.2.2.2,(s.2.2.2.2,(((s.2.2.2.2.length:Nat):Int),(i,()))))))))))))
def qa7 (p:CoD×(StD×(List Su.Vl×Int))):Option Bool:=bif smS p.2.1 then some (qan p.1 p.2.1 p.2.2.1 p.2.2.2) else none
theorem qFn {s:StD} (h:smS s=true) {x:Su.Ce} (hx:x∈s.2.2.2.2) (f:Int):qci (x.fm,f)=some (ofS x.fm f):=by
 unfold smS at h
 rw [Bool.and_eq_true] at h
 have:=List.all_eq_true.1 h.2 x hx
 unfold qci
 rw [show Nat.ble (x.fm,f).1.2.2.1.length 1000000=true from this,cond_true]
theorem qln (c:CoD) (s:StD) (row:List Su.Vl) (k:Int) (hm:smS s=true) (hg:∀ v∈row,qEq.good (qEr v)) (h1:s.2.2.2.2.length=c.2.1.length) (h2:row.length=c.2.1.length) (i:Nat) (hi:i<c.2.1.length) :
 qcj (qqS c s row k i)=some (bif hsN c.2.1 s.2.2.2.2 row k i then .inl (qqS c s row k ((i+1:Nat):Int)) else .inr (.ret false)):=by
 have i1:i<s.2.2.2.2.length:=by omega
 have i2:i<row.length:=by omega
 have hmx:s.2.2.2.2.length≤maxLen:=by have:=Jv hm;rw [qF];omega
 have hof:=qFn hm (List.getElem_mem i1)
 have hv:=hg _ (List.getElem_mem i2)
 unfold hsN qqS
 rw [List.getElem?_eq_getElem hi,List.getElem?_eq_getElem i1,List.getElem?_eq_getElem i2]
 simp only [qcj,ltN,decide_eq_true i1,cond_true,ixl i1,ixl hi,ixl i2,Option.bind_some,w1 i1 hmx]
 generalize c.2.1[i]=d at *
 generalize s.2.2.2.2[i]=x at *
 generalize row[i]=v at *
 have hvi:IntKind.i64.wrap v.i=v.i:=by
  have:=qyt.1 hv.2.2.1
  have h3 : -2147483648≤v.i∧v.i<2147483648:=this
  exact w64 (by omega) (by omega)
 rw [hvi]
 unfold YK
 by_cases t0:v.type=d.type
 · rw [decide_eq_true t0]
   refine (qt rfl).trans ?_
   by_cases t1:d.type=1
   · rw [decide_eq_true t1]
     cases v.b <;> cases x.t <;> cases x.f <;> rfl
   · rw [decide_eq_false t1]
     refine (qt rfl).trans ?_
     by_cases t2:d.type=2
     · rw [decide_eq_true t2]
       cases qT x.i v.i <;> cases J4 (x.d,x.p) v.i k <;> rfl
     · rw [decide_eq_false t2]
       refine (qt rfl).trans ?_
       by_cases t3:d.type=3
       · rw [decide_eq_true t3]
         cases qau x.s v.f with
         | false=>rfl
         | true =>
          refine (qz rfl).trans ((qz rfl).trans (obB (hof v.f) ?_))
          cases ofS x.fm v.f <;> rfl
       · rw [decide_eq_false t3];rfl
 · rw [decide_eq_false t0];rfl
theorem qz5 (p:CoD×(StD×(List Su.Vl×Int))) (y:Bool) (hg:(dc cCo (dc cSt (dc (cL rVl) (d1 (cI .i64))))).good p) (h:qa7 p=some y):∃ n,qz4 n p.1 p.2.1 p.2.2.1 p.2.2.2=some y:=by
 obtain ⟨c,s,row,k⟩:=p
 obtain ⟨hm,h⟩:=qj h
 have:=soi h;subst this
 have hm:smS s=true:=hm
 have hgr:∀ v∈row,qEq.good (qEr v):=hg.2.2.1.1
 refine ⟨c.2.1.length+1,?_⟩
 show qz4 (c.2.1.length+1) c s row k=some (qan c s row k)
 unfold qz4
 rcases Bool.eq_false_or_eq_true s.1 with hd | hd
 · rw [show qan c s row k=false from qz hd];exact qz hd
 · refine (qt hd).trans ?_
   rw [lnE,lnE]
   by_cases h1:s.2.2.2.2.length=c.2.1.length
   · have e1:(!decide (s.2.2.2.2.length=c.2.1.length))=false:=by rw [decide_eq_true h1];rfl
     refine (qt e1).trans ?_
     by_cases h2:row.length=c.2.1.length
     · have e2:(!decide (row.length=c.2.1.length))=false:=by rw [decide_eq_true h2];rfl
       refine (qt e2).trans ?_
       rcases Bool.eq_false_or_eq_true (qT (stK s) k) with hk | hk
       · have e3:(!qT (stK s) k)=false:=by rw [hk];rfl
         refine (qt e3).trans ?_
         rw [show qan c s row k=Yv c.2.1.length (hsN c.2.1 s.2.2.2.2 row k) from (qt hd).trans ((qt e1).trans ((qt e2).trans (qt e3)))]
         have hK:=Zi (F:=qcj) (mk:=fun i=>qqS c s row k (i:Int)) (n:=c.2.1.length) (ok:=hsN c.2.1 s.2.2.2.2 row k) (r1:=.ret false) (r0:=.exit 0 (qqS c s row k (c.2.1.length:Int)))
          (fun i hi hk=>by rw [qln c s row k hm hgr h1 h2 i hi,hk];rfl) (fun i hi hk=>by rw [qln c s row k hm hgr h1 h2 i hi,hk];rfl)
          (by unfold qqS;simp only [qcj,ltN,h1,decide_eq_false (Nat.lt_irrefl _),cond_false])
         refine obB (hK _ (Nat.le_refl _)) ?_
         cases Yv c.2.1.length (hsN c.2.1 s.2.2.2.2 row k) <;> rfl
       · have e3:(!qT (stK s) k)=true:=by rw [hk];rfl
         rw [show qan c s row k=false from (qt hd).trans ((qt e1).trans ((qt e2).trans (qz e3)))]
         exact qz e3
     · have e2:(!decide (row.length=c.2.1.length))=true:=by rw [decide_eq_false h2];rfl
       rw [show qan c s row k=false from (qt hd).trans ((qt e1).trans (qz e2))]
       exact qz e2
   · have e1:(!decide (s.2.2.2.2.length=c.2.1.length))=true:=by rw [decide_eq_false h1];rfl
     rw [show qan c s row k=false from (qt hd).trans (qz e1)]
     exact qz e1
end
end Su
end
section
namespace Su
open Go Fly
set_option linter.unusedVariables false
noncomputable section
end
end Su
end
section
namespace Su
open Go Fly
set_option linter.unusedVariables false
noncomputable section
def qFo  (a:(Bool×Bool)) (b:(Bool×Bool)):Option (Bool×Bool) :=
 (bif a.1 then
 (bif a.2 then
 some (true,true)
 else
  some (true,b.2))
 else
  (bif a.2 then
  some (b.1,true)
 else
  some b))
def qvb (p:(Bool×Bool)×(Bool×Bool)):Option (Bool×Bool):=some (p.1.1||p.2.1,p.1.2||p.2.2)
theorem qz6 (p:(Bool×Bool)×(Bool×Bool)) (y:Bool×Bool) (hg:(dc cB2 (d1 cB2)).good p) (h:qvb p=some y):qFo p.1 p.2=some y:=by
 obtain ⟨⟨a,b⟩,⟨c,d⟩⟩:=p
 have:=soi h;subst this
 unfold qFo
 cases a <;> cases b <;> cases c <;> cases d <;> rfl
end
end Su
end
