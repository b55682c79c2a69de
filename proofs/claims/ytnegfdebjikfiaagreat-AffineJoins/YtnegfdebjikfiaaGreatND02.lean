/-
  What functions of the program compute, in plain Lean, and that the evaluator finds it.
-/
import Derived.Test.YtnegfdebjikfiaaGreatSuXl
import Derived.Test.YtnegfdebjikfiaaGreatNS05
set_option linter.unusedVariables false
set_option linter.unusedSimpArgs false
set_option maxRecDepth 10000
section
namespace Su
open Go Fly
noncomputable section
def qcY:Stp ((List Int)×Nat×Int×Int×(List T)×Unit):=fun p1=>(bif(decide (p1.2.2.2.1<64))then
 (idx p1.1 p1.2.2.1).bind fun x2=>
 (bif(decide (0≤(IntKind.wrap .u64 p1.2.2.2.1)))then
 (bif((true&&(Nat.beq p1.2.1 p1.2.2.2.2.1.length))&&(Nat.ble (p1.2.2.2.2.1.length+(List.length [(T.s (.bool (decide ((Fly.qz Go.BinOp.and .u64 (Int.fdiv x2 (2^(min (Int.toNat (IntKind.wrap .u64 p1.2.2.2.1)) 64))) 1)=1))))])) 549755813888))then
 some (.inl (p1.1,(List.length (p1.2.2.2.2.1++[(T.s (.bool (decide ((Fly.qz Go.BinOp.and .u64 (Int.fdiv x2 (2^(min (Int.toNat (IntKind.wrap .u64 p1.2.2.2.1)) 64))) 1)=1))))])),p1.2.2.1,(IntKind.wrap .i64 (p1.2.2.2.1+1)),(p1.2.2.2.2.1++[(T.s (.bool (decide ((Fly.qz Go.BinOp.and .u64 (Int.fdiv x2 (2^(min (Int.toNat (IntKind.wrap .u64 p1.2.2.2.1)) 64))) 1)=1))))]),()))
 else none)
 else none)
 else
  some (.inr (p1.1,p1.2.1,p1.2.2.1,p1.2.2.2.1,p1.2.2.2.2.1,())))
def qcZ(fu:Nat):Stp ((List Int)×Nat×Int×(List T)×Unit):=fun p0=>(bif(decide (p0.2.2.1<(List.length p0.1:Int)))then
 (itP fu (qcY) (p0.1,p0.2.1,p0.2.2.1,(0:Int),p0.2.2.2.1,())).bind fun x3=>
 some (.inl (x3.1,x3.2.1,(IntKind.wrap .i64 (x3.2.2.1+1)),x3.2.2.2.2.1,()))
 else
  some (.inr (p0.1,p0.2.1,p0.2.2.1,p0.2.2.2.1,())))
def bOf  (fu:Nat)(l:(List Int)):Option (List Bool) :=
 (itP fu (qcZ fu) (l,0,(0:Int),[],())).bind fun x4=>
 (Su.sub x4.2.2.2.1 0 x4.2.1).bind fun x5=>
 (qI 4 x5)
def YQ:Stp ((List Bool)×(List Bool)×Nat×Bool×Int×(List T)×Unit):=fun p0=>(bif(decide (p0.2.2.2.2.1<(List.length p0.1:Int)))then
 (bif((true&&(Nat.beq p0.2.2.1 p0.2.2.2.2.2.1.length))&&(Nat.ble (p0.2.2.2.2.2.1.length+(List.length [(T.s (.bool (!(decide ((!(decide ((qi p0.1 p0.2.2.2.2.1)=(qi p0.2.1 p0.2.2.2.2.1))))=p0.2.2.2.1)))))])) 549755813888))then
 (bif(qi p0.1 p0.2.2.2.2.1)then
 (bif(qi p0.2.1 p0.2.2.2.2.1)then
 some (.inl (p0.1,p0.2.1,(List.length (p0.2.2.2.2.2.1++[(T.s (.bool (!(decide ((!(decide ((qi p0.1 p0.2.2.2.2.1)=(qi p0.2.1 p0.2.2.2.2.1))))=p0.2.2.2.1)))))])),true,(IntKind.wrap .i64 (p0.2.2.2.2.1+1)),(p0.2.2.2.2.2.1++[(T.s (.bool (!(decide ((!(decide ((qi p0.1 p0.2.2.2.2.1)=(qi p0.2.1 p0.2.2.2.2.1))))=p0.2.2.2.1)))))]),()))
 else
  (bif(qi p0.1 p0.2.2.2.2.1)then
  (bif p0.2.2.2.1 then
  some (.inl (p0.1,p0.2.1,(List.length (p0.2.2.2.2.2.1++[(T.s (.bool (!(decide ((!(decide ((qi p0.1 p0.2.2.2.2.1)=(qi p0.2.1 p0.2.2.2.2.1))))=p0.2.2.2.1)))))])),true,(IntKind.wrap .i64 (p0.2.2.2.2.1+1)),(p0.2.2.2.2.2.1++[(T.s (.bool (!(decide ((!(decide ((qi p0.1 p0.2.2.2.2.1)=(qi p0.2.1 p0.2.2.2.2.1))))=p0.2.2.2.1)))))]),()))
 else
  (bif(qi p0.2.1 p0.2.2.2.2.1)then
  some (.inl (p0.1,p0.2.1,(List.length (p0.2.2.2.2.2.1++[(T.s (.bool (!(decide ((!(decide ((qi p0.1 p0.2.2.2.2.1)=(qi p0.2.1 p0.2.2.2.2.1))))=p0.2.2.2.1)))))])),p0.2.2.2.1,(IntKind.wrap .i64 (p0.2.2.2.2.1+1)),(p0.2.2.2.2.2.1++[(T.s (.bool (!(decide ((!(decide ((qi p0.1 p0.2.2.2.2.1)=(qi p0.2.1 p0.2.2.2.2.1))))=p0.2.2.2.1)))))]),()))
 else
  some (.inl (p0.1,p0.2.1,(List.length (p0.2.2.2.2.2.1++[(T.s (.bool (!(decide ((!(decide ((qi p0.1 p0.2.2.2.2.1)=(qi p0.2.1 p0.2.2.2.2.1))))=p0.2.2.2.1)))))])),false,(IntKind.wrap .i64 (p0.2.2.2.2.1+1)),(p0.2.2.2.2.2.1++[(T.s (.bool (!(decide ((!(decide ((qi p0.1 p0.2.2.2.2.1)=(qi p0.2.1 p0.2.2.2.2.1))))=p0.2.2.2.1)))))]),()))))
 else
  (bif(qi p0.2.1 p0.2.2.2.2.1)then
  some (.inl (p0.1,p0.2.1,(List.length (p0.2.2.2.2.2.1++[(T.s (.bool (!(decide ((!(decide ((qi p0.1 p0.2.2.2.2.1)=(qi p0.2.1 p0.2.2.2.2.1))))=p0.2.2.2.1)))))])),p0.2.2.2.1,(IntKind.wrap .i64 (p0.2.2.2.2.1+1)),(p0.2.2.2.2.2.1++[(T.s (.bool (!(decide ((!(decide ((qi p0.1 p0.2.2.2.2.1)=(qi p0.2.1 p0.2.2.2.2.1))))=p0.2.2.2.1)))))]),()))
 else
  some (.inl (p0.1,p0.2.1,(List.length (p0.2.2.2.2.2.1++[(T.s (.bool (!(decide ((!(decide ((qi p0.1 p0.2.2.2.2.1)=(qi p0.2.1 p0.2.2.2.2.1))))=p0.2.2.2.1)))))])),false,(IntKind.wrap .i64 (p0.2.2.2.2.1+1)),(p0.2.2.2.2.2.1++[(T.s (.bool (!(decide ((!(decide ((qi p0.1 p0.2.2.2.2.1)=(qi p0.2.1 p0.2.2.2.2.1))))=p0.2.2.2.1)))))]),())))))
 else
  (bif(qi p0.1 p0.2.2.2.2.1)then
  (bif p0.2.2.2.1 then
  some (.inl (p0.1,p0.2.1,(List.length (p0.2.2.2.2.2.1++[(T.s (.bool (!(decide ((!(decide ((qi p0.1 p0.2.2.2.2.1)=(qi p0.2.1 p0.2.2.2.2.1))))=p0.2.2.2.1)))))])),true,(IntKind.wrap .i64 (p0.2.2.2.2.1+1)),(p0.2.2.2.2.2.1++[(T.s (.bool (!(decide ((!(decide ((qi p0.1 p0.2.2.2.2.1)=(qi p0.2.1 p0.2.2.2.2.1))))=p0.2.2.2.1)))))]),()))
 else
  (bif(qi p0.2.1 p0.2.2.2.2.1)then
  some (.inl (p0.1,p0.2.1,(List.length (p0.2.2.2.2.2.1++[(T.s (.bool (!(decide ((!(decide ((qi p0.1 p0.2.2.2.2.1)=(qi p0.2.1 p0.2.2.2.2.1))))=p0.2.2.2.1)))))])),p0.2.2.2.1,(IntKind.wrap .i64 (p0.2.2.2.2.1+1)),(p0.2.2.2.2.2.1++[(T.s (.bool (!(decide ((!(decide ((qi p0.1 p0.2.2.2.2.1)=(qi p0.2.1 p0.2.2.2.2.1))))=p0.2.2.2.1)))))]),()))
 else
  some (.inl (p0.1,p0.2.1,(List.length (p0.2.2.2.2.2.1++[(T.s (.bool (!(decide ((!(decide ((qi p0.1 p0.2.2.2.2.1)=(qi p0.2.1 p0.2.2.2.2.1))))=p0.2.2.2.1)))))])),false,(IntKind.wrap .i64 (p0.2.2.2.2.1+1)),(p0.2.2.2.2.2.1++[(T.s (.bool (!(decide ((!(decide ((qi p0.1 p0.2.2.2.2.1)=(qi p0.2.1 p0.2.2.2.2.1))))=p0.2.2.2.1)))))]),()))))
 else
  (bif(qi p0.2.1 p0.2.2.2.2.1)then
  some (.inl (p0.1,p0.2.1,(List.length (p0.2.2.2.2.2.1++[(T.s (.bool (!(decide ((!(decide ((qi p0.1 p0.2.2.2.2.1)=(qi p0.2.1 p0.2.2.2.2.1))))=p0.2.2.2.1)))))])),p0.2.2.2.1,(IntKind.wrap .i64 (p0.2.2.2.2.1+1)),(p0.2.2.2.2.2.1++[(T.s (.bool (!(decide ((!(decide ((qi p0.1 p0.2.2.2.2.1)=(qi p0.2.1 p0.2.2.2.2.1))))=p0.2.2.2.1)))))]),()))
 else
  some (.inl (p0.1,p0.2.1,(List.length (p0.2.2.2.2.2.1++[(T.s (.bool (!(decide ((!(decide ((qi p0.1 p0.2.2.2.2.1)=(qi p0.2.1 p0.2.2.2.2.1))))=p0.2.2.2.1)))))])),false,(IntKind.wrap .i64 (p0.2.2.2.2.1+1)),(p0.2.2.2.2.2.1++[(T.s (.bool (!(decide ((!(decide ((qi p0.1 p0.2.2.2.2.1)=(qi p0.2.1 p0.2.2.2.2.1))))=p0.2.2.2.1)))))]),())))))
 else none)
 else
  (bif(decide (p0.2.2.2.2.1<(List.length p0.2.1:Int)))then
  (bif((true&&(Nat.beq p0.2.2.1 p0.2.2.2.2.2.1.length))&&(Nat.ble (p0.2.2.2.2.2.1.length+(List.length [(T.s (.bool (!(decide ((!(decide ((qi p0.1 p0.2.2.2.2.1)=(qi p0.2.1 p0.2.2.2.2.1))))=p0.2.2.2.1)))))])) 549755813888))then
  (bif(qi p0.1 p0.2.2.2.2.1)then
  (bif(qi p0.2.1 p0.2.2.2.2.1)then
  some (.inl (p0.1,p0.2.1,(List.length (p0.2.2.2.2.2.1++[(T.s (.bool (!(decide ((!(decide ((qi p0.1 p0.2.2.2.2.1)=(qi p0.2.1 p0.2.2.2.2.1))))=p0.2.2.2.1)))))])),true,(IntKind.wrap .i64 (p0.2.2.2.2.1+1)),(p0.2.2.2.2.2.1++[(T.s (.bool (!(decide ((!(decide ((qi p0.1 p0.2.2.2.2.1)=(qi p0.2.1 p0.2.2.2.2.1))))=p0.2.2.2.1)))))]),()))
 else
  (bif(qi p0.1 p0.2.2.2.2.1)then
  (bif p0.2.2.2.1 then
  some (.inl (p0.1,p0.2.1,(List.length (p0.2.2.2.2.2.1++[(T.s (.bool (!(decide ((!(decide ((qi p0.1 p0.2.2.2.2.1)=(qi p0.2.1 p0.2.2.2.2.1))))=p0.2.2.2.1)))))])),true,(IntKind.wrap .i64 (p0.2.2.2.2.1+1)),(p0.2.2.2.2.2.1++[(T.s (.bool (!(decide ((!(decide ((qi p0.1 p0.2.2.2.2.1)=(qi p0.2.1 p0.2.2.2.2.1))))=p0.2.2.2.1)))))]),()))
 else
  (bif(qi p0.2.1 p0.2.2.2.2.1)then
  some (.inl (p0.1,p0.2.1,(List.length (p0.2.2.2.2.2.1++[(T.s (.bool (!(decide ((!(decide ((qi p0.1 p0.2.2.2.2.1)=(qi p0.2.1 p0.2.2.2.2.1))))=p0.2.2.2.1)))))])),p0.2.2.2.1,(IntKind.wrap .i64 (p0.2.2.2.2.1+1)),(p0.2.2.2.2.2.1++[(T.s (.bool (!(decide ((!(decide ((qi p0.1 p0.2.2.2.2.1)=(qi p0.2.1 p0.2.2.2.2.1))))=p0.2.2.2.1)))))]),()))
 else
  some (.inl (p0.1,p0.2.1,(List.length (p0.2.2.2.2.2.1++[(T.s (.bool (!(decide ((!(decide ((qi p0.1 p0.2.2.2.2.1)=(qi p0.2.1 p0.2.2.2.2.1))))=p0.2.2.2.1)))))])),false,(IntKind.wrap .i64 (p0.2.2.2.2.1+1)),(p0.2.2.2.2.2.1++[(T.s (.bool (!(decide ((!(decide ((qi p0.1 p0.2.2.2.2.1)=(qi p0.2.1 p0.2.2.2.2.1))))=p0.2.2.2.1)))))]),()))))
 else
  (bif(qi p0.2.1 p0.2.2.2.2.1)then
  some (.inl (p0.1,p0.2.1,(List.length (p0.2.2.2.2.2.1++[(T.s (.bool (!(decide ((!(decide ((qi p0.1 p0.2.2.2.2.1)=(qi p0.2.1 p0.2.2.2.2.1))))=p0.2.2.2.1)))))])),p0.2.2.2.1,(IntKind.wrap .i64 (p0.2.2.2.2.1+1)),(p0.2.2.2.2.2.1++[(T.s (.bool (!(decide ((!(decide ((qi p0.1 p0.2.2.2.2.1)=(qi p0.2.1 p0.2.2.2.2.1))))=p0.2.2.2.1)))))]),()))
 else
  some (.inl (p0.1,p0.2.1,(List.length (p0.2.2.2.2.2.1++[(T.s (.bool (!(decide ((!(decide ((qi p0.1 p0.2.2.2.2.1)=(qi p0.2.1 p0.2.2.2.2.1))))=p0.2.2.2.1)))))])),false,(IntKind.wrap .i64 (p0.2.2.2.2.1+1)),(p0.2.2.2.2.2.1++[(T.s (.bool (!(decide ((!(decide ((qi p0.1 p0.2.2.2.2.1)=(qi p0.2.1 p0.2.2.2.2.1))))=p0.2.2.2.1)))))]),())))))
 else
  (bif(qi p0.1 p0.2.2.2.2.1)then
  (bif p0.2.2.2.1 then
  some (.inl (p0.1,p0.2.1,(List.length (p0.2.2.2.2.2.1++[(T.s (.bool (!(decide ((!(decide ((qi p0.1 p0.2.2.2.2.1)=(qi p0.2.1 p0.2.2.2.2.1))))=p0.2.2.2.1)))))])),true,(IntKind.wrap .i64 (p0.2.2.2.2.1+1)),(p0.2.2.2.2.2.1++[(T.s (.bool (!(decide ((!(decide ((qi p0.1 p0.2.2.2.2.1)=(qi p0.2.1 p0.2.2.2.2.1))))=p0.2.2.2.1)))))]),()))
 else
  (bif(qi p0.2.1 p0.2.2.2.2.1)then
  some (.inl (p0.1,p0.2.1,(List.length (p0.2.2.2.2.2.1++[(T.s (.bool (!(decide ((!(decide ((qi p0.1 p0.2.2.2.2.1)=(qi p0.2.1 p0.2.2.2.2.1))))=p0.2.2.2.1)))))])),p0.2.2.2.1,(IntKind.wrap .i64 (p0.2.2.2.2.1+1)),(p0.2.2.2.2.2.1++[(T.s (.bool (!(decide ((!(decide ((qi p0.1 p0.2.2.2.2.1)=(qi p0.2.1 p0.2.2.2.2.1))))=p0.2.2.2.1)))))]),()))
 else
  some (.inl (p0.1,p0.2.1,(List.length (p0.2.2.2.2.2.1++[(T.s (.bool (!(decide ((!(decide ((qi p0.1 p0.2.2.2.2.1)=(qi p0.2.1 p0.2.2.2.2.1))))=p0.2.2.2.1)))))])),false,(IntKind.wrap .i64 (p0.2.2.2.2.1+1)),(p0.2.2.2.2.2.1++[(T.s (.bool (!(decide ((!(decide ((qi p0.1 p0.2.2.2.2.1)=(qi p0.2.1 p0.2.2.2.2.1))))=p0.2.2.2.1)))))]),()))))
 else
  (bif(qi p0.2.1 p0.2.2.2.2.1)then
  some (.inl (p0.1,p0.2.1,(List.length (p0.2.2.2.2.2.1++[(T.s (.bool (!(decide ((!(decide ((qi p0.1 p0.2.2.2.2.1)=(qi p0.2.1 p0.2.2.2.2.1))))=p0.2.2.2.1)))))])),p0.2.2.2.1,(IntKind.wrap .i64 (p0.2.2.2.2.1+1)),(p0.2.2.2.2.2.1++[(T.s (.bool (!(decide ((!(decide ((qi p0.1 p0.2.2.2.2.1)=(qi p0.2.1 p0.2.2.2.2.1))))=p0.2.2.2.1)))))]),()))
 else
  some (.inl (p0.1,p0.2.1,(List.length (p0.2.2.2.2.2.1++[(T.s (.bool (!(decide ((!(decide ((qi p0.1 p0.2.2.2.2.1)=(qi p0.2.1 p0.2.2.2.2.1))))=p0.2.2.2.1)))))])),false,(IntKind.wrap .i64 (p0.2.2.2.2.1+1)),(p0.2.2.2.2.2.1++[(T.s (.bool (!(decide ((!(decide ((qi p0.1 p0.2.2.2.2.1)=(qi p0.2.1 p0.2.2.2.2.1))))=p0.2.2.2.1)))))]),())))))
 else none)
 else
  (bif p0.2.2.2.1 then
  (bif((true&&(Nat.beq p0.2.2.1 p0.2.2.2.2.2.1.length))&&(Nat.ble (p0.2.2.2.2.2.1.length+(List.length [(T.s (.bool (!(decide ((!(decide ((qi p0.1 p0.2.2.2.2.1)=(qi p0.2.1 p0.2.2.2.2.1))))=p0.2.2.2.1)))))])) 549755813888))then
  (bif(qi p0.1 p0.2.2.2.2.1)then
  (bif(qi p0.2.1 p0.2.2.2.2.1)then
  some (.inl (p0.1,p0.2.1,(List.length (p0.2.2.2.2.2.1++[(T.s (.bool (!(decide ((!(decide ((qi p0.1 p0.2.2.2.2.1)=(qi p0.2.1 p0.2.2.2.2.1))))=p0.2.2.2.1)))))])),true,(IntKind.wrap .i64 (p0.2.2.2.2.1+1)),(p0.2.2.2.2.2.1++[(T.s (.bool (!(decide ((!(decide ((qi p0.1 p0.2.2.2.2.1)=(qi p0.2.1 p0.2.2.2.2.1))))=p0.2.2.2.1)))))]),()))
 else
  (bif(qi p0.1 p0.2.2.2.2.1)then
  (bif p0.2.2.2.1 then
  some (.inl (p0.1,p0.2.1,(List.length (p0.2.2.2.2.2.1++[(T.s (.bool (!(decide ((!(decide ((qi p0.1 p0.2.2.2.2.1)=(qi p0.2.1 p0.2.2.2.2.1))))=p0.2.2.2.1)))))])),true,(IntKind.wrap .i64 (p0.2.2.2.2.1+1)),(p0.2.2.2.2.2.1++[(T.s (.bool (!(decide ((!(decide ((qi p0.1 p0.2.2.2.2.1)=(qi p0.2.1 p0.2.2.2.2.1))))=p0.2.2.2.1)))))]),()))
 else
  (bif(qi p0.2.1 p0.2.2.2.2.1)then
  some (.inl (p0.1,p0.2.1,(List.length (p0.2.2.2.2.2.1++[(T.s (.bool (!(decide ((!(decide ((qi p0.1 p0.2.2.2.2.1)=(qi p0.2.1 p0.2.2.2.2.1))))=p0.2.2.2.1)))))])),p0.2.2.2.1,(IntKind.wrap .i64 (p0.2.2.2.2.1+1)),(p0.2.2.2.2.2.1++[(T.s (.bool (!(decide ((!(decide ((qi p0.1 p0.2.2.2.2.1)=(qi p0.2.1 p0.2.2.2.2.1))))=p0.2.2.2.1)))))]),()))
 else
  some (.inl (p0.1,p0.2.1,(List.length (p0.2.2.2.2.2.1++[(T.s (.bool (!(decide ((!(decide ((qi p0.1 p0.2.2.2.2.1)=(qi p0.2.1 p0.2.2.2.2.1))))=p0.2.2.2.1)))))])),false,(IntKind.wrap .i64 (p0.2.2.2.2.1+1)),(p0.2.2.2.2.2.1++[(T.s (.bool (!(decide ((!(decide ((qi p0.1 p0.2.2.2.2.1)=(qi p0.2.1 p0.2.2.2.2.1))))=p0.2.2.2.1)))))]),()))))
 else
  (bif(qi p0.2.1 p0.2.2.2.2.1)then
  some (.inl (p0.1,p0.2.1,(List.length (p0.2.2.2.2.2.1++[(T.s (.bool (!(decide ((!(decide ((qi p0.1 p0.2.2.2.2.1)=(qi p0.2.1 p0.2.2.2.2.1))))=p0.2.2.2.1)))))])),p0.2.2.2.1,(IntKind.wrap .i64 (p0.2.2.2.2.1+1)),(p0.2.2.2.2.2.1++[(T.s (.bool (!(decide ((!(decide ((qi p0.1 p0.2.2.2.2.1)=(qi p0.2.1 p0.2.2.2.2.1))))=p0.2.2.2.1)))))]),()))
 else
  some (.inl (p0.1,p0.2.1,(List.length (p0.2.2.2.2.2.1++[(T.s (.bool (!(decide ((!(decide ((qi p0.1 p0.2.2.2.2.1)=(qi p0.2.1 p0.2.2.2.2.1))))=p0.2.2.2.1)))))])),false,(IntKind.wrap .i64 (p0.2.2.2.2.1+1)),(p0.2.2.2.2.2.1++[(T.s (.bool (!(decide ((!(decide ((qi p0.1 p0.2.2.2.2.1)=(qi p0.2.1 p0.2.2.2.2.1))))=p0.2.2.2.1)))))]),())))))
 else
  (bif(qi p0.1 p0.2.2.2.2.1)then
  (bif p0.2.2.2.1 then
  some (.inl (p0.1,p0.2.1,(List.length (p0.2.2.2.2.2.1++[(T.s (.bool (!(decide ((!(decide ((qi p0.1 p0.2.2.2.2.1)=(qi p0.2.1 p0.2.2.2.2.1))))=p0.2.2.2.1)))))])),true,(IntKind.wrap .i64 (p0.2.2.2.2.1+1)),(p0.2.2.2.2.2.1++[(T.s (.bool (!(decide ((!(decide ((qi p0.1 p0.2.2.2.2.1)=(qi p0.2.1 p0.2.2.2.2.1))))=p0.2.2.2.1)))))]),()))
 else
  (bif(qi p0.2.1 p0.2.2.2.2.1)then
  some (.inl (p0.1,p0.2.1,(List.length (p0.2.2.2.2.2.1++[(T.s (.bool (!(decide ((!(decide ((qi p0.1 p0.2.2.2.2.1)=(qi p0.2.1 p0.2.2.2.2.1))))=p0.2.2.2.1)))))])),p0.2.2.2.1,(IntKind.wrap .i64 (p0.2.2.2.2.1+1)),(p0.2.2.2.2.2.1++[(T.s (.bool (!(decide ((!(decide ((qi p0.1 p0.2.2.2.2.1)=(qi p0.2.1 p0.2.2.2.2.1))))=p0.2.2.2.1)))))]),()))
 else
  some (.inl (p0.1,p0.2.1,(List.length (p0.2.2.2.2.2.1++[(T.s (.bool (!(decide ((!(decide ((qi p0.1 p0.2.2.2.2.1)=(qi p0.2.1 p0.2.2.2.2.1))))=p0.2.2.2.1)))))])),false,(IntKind.wrap .i64 (p0.2.2.2.2.1+1)),(p0.2.2.2.2.2.1++[(T.s (.bool (!(decide ((!(decide ((qi p0.1 p0.2.2.2.2.1)=(qi p0.2.1 p0.2.2.2.2.1))))=p0.2.2.2.1)))))]),()))))
 else
  (bif(qi p0.2.1 p0.2.2.2.2.1)then
  some (.inl (p0.1,p0.2.1,(List.length (p0.2.2.2.2.2.1++[(T.s (.bool (!(decide ((!(decide ((qi p0.1 p0.2.2.2.2.1)=(qi p0.2.1 p0.2.2.2.2.1))))=p0.2.2.2.1)))))])),p0.2.2.2.1,(IntKind.wrap .i64 (p0.2.2.2.2.1+1)),(p0.2.2.2.2.2.1++[(T.s (.bool (!(decide ((!(decide ((qi p0.1 p0.2.2.2.2.1)=(qi p0.2.1 p0.2.2.2.2.1))))=p0.2.2.2.1)))))]),()))
 else
  some (.inl (p0.1,p0.2.1,(List.length (p0.2.2.2.2.2.1++[(T.s (.bool (!(decide ((!(decide ((qi p0.1 p0.2.2.2.2.1)=(qi p0.2.1 p0.2.2.2.2.1))))=p0.2.2.2.1)))))])),false,(IntKind.wrap .i64 (p0.2.2.2.2.1+1)),(p0.2.2.2.2.2.1++[(T.s (.bool (!(decide ((!(decide ((qi p0.1 p0.2.2.2.2.1)=(qi p0.2.1 p0.2.2.2.2.1))))=p0.2.2.2.1)))))]),())))))
 else none)
 else
  some (.inr (p0.1,p0.2.1,p0.2.2.1,p0.2.2.2.1,p0.2.2.2.2.1,p0.2.2.2.2.2.1,())))))
def qCg  (fu:Nat)(a:(List Bool))(b:(List Bool)):Option (List Bool) :=
 (itP fu (YQ) (a,b,0,false,(0:Int),[],())).bind fun x1=>
 (Su.sub x1.2.2.2.2.2.1 0 x1.2.2.1).bind fun x2=>
 (qI 4 x2)
def JK:((List Bool)×(List Bool)×Int×Unit)→Option (((List Bool)×(List Bool)×Int×Unit) ⊕ (Lp ((List Bool)×(List Bool)×Int×Unit) Int)):=fun p0=>(bif(decide (0≤p0.2.2.1))then
 (bif(!(decide ((qi p0.1 p0.2.2.1)=(qi p0.2.1 p0.2.2.1))))then
 (bif(qi p0.1 p0.2.2.1)then
 some (.inr (.ret 1))
 else
  some (.inr (.ret (-1))))
 else
  some (.inl (p0.1,p0.2.1,(IntKind.wrap .i64 (p0.2.2.1-1)),())))
 else
  some (.inr (.exit 0 (p0.1,p0.2.1,p0.2.2.1,()))))
def qCh  (fu:Nat)(a:(List Bool))(b:(List Bool)):Option Int :=
 (itP fu (JK) (a,b,(IntKind.wrap .i64 ((max (List.length a:Int) (List.length b:Int))-1)),())).bind fun x1=>
 (match x1 with
 | .exit i2 p3=>(bif(Nat.beq i2 0)then
  some 0
 else none)
 | .ret o4=>some o4)
def YR:Stp ((List Bool)×(List Bool)×Int×Nat×Bool×Int×(List T)×Unit):=fun p0=>(bif(decide (p0.2.2.2.2.2.1<p0.2.2.1))then
 (bif((true&&(Nat.beq p0.2.2.2.1 p0.2.2.2.2.2.2.1.length))&&(Nat.ble (p0.2.2.2.2.2.2.1.length+(List.length [(T.s (.bool (!(decide ((!(decide ((qi p0.1 p0.2.2.2.2.2.1)=(qi p0.2.1 p0.2.2.2.2.2.1))))=p0.2.2.2.2.1)))))])) 549755813888))then
 (bif(!(qi p0.1 p0.2.2.2.2.2.1))then
 (bif(qi p0.2.1 p0.2.2.2.2.2.1)then
 some (.inl (p0.1,p0.2.1,p0.2.2.1,(List.length (p0.2.2.2.2.2.2.1++[(T.s (.bool (!(decide ((!(decide ((qi p0.1 p0.2.2.2.2.2.1)=(qi p0.2.1 p0.2.2.2.2.2.1))))=p0.2.2.2.2.1)))))])),true,(IntKind.wrap .i64 (p0.2.2.2.2.2.1+1)),(p0.2.2.2.2.2.2.1++[(T.s (.bool (!(decide ((!(decide ((qi p0.1 p0.2.2.2.2.2.1)=(qi p0.2.1 p0.2.2.2.2.2.1))))=p0.2.2.2.2.1)))))]),()))
 else
  (bif p0.2.2.2.2.1 then
  some (.inl (p0.1,p0.2.1,p0.2.2.1,(List.length (p0.2.2.2.2.2.2.1++[(T.s (.bool (!(decide ((!(decide ((qi p0.1 p0.2.2.2.2.2.1)=(qi p0.2.1 p0.2.2.2.2.2.1))))=p0.2.2.2.2.1)))))])),true,(IntKind.wrap .i64 (p0.2.2.2.2.2.1+1)),(p0.2.2.2.2.2.2.1++[(T.s (.bool (!(decide ((!(decide ((qi p0.1 p0.2.2.2.2.2.1)=(qi p0.2.1 p0.2.2.2.2.2.1))))=p0.2.2.2.2.1)))))]),()))
 else
  (bif(qi p0.1 p0.2.2.2.2.2.1)then
  (bif(qi p0.2.1 p0.2.2.2.2.2.1)then
  some (.inl (p0.1,p0.2.1,p0.2.2.1,(List.length (p0.2.2.2.2.2.2.1++[(T.s (.bool (!(decide ((!(decide ((qi p0.1 p0.2.2.2.2.2.1)=(qi p0.2.1 p0.2.2.2.2.2.1))))=p0.2.2.2.2.1)))))])),p0.2.2.2.2.1,(IntKind.wrap .i64 (p0.2.2.2.2.2.1+1)),(p0.2.2.2.2.2.2.1++[(T.s (.bool (!(decide ((!(decide ((qi p0.1 p0.2.2.2.2.2.1)=(qi p0.2.1 p0.2.2.2.2.2.1))))=p0.2.2.2.2.1)))))]),()))
 else
  some (.inl (p0.1,p0.2.1,p0.2.2.1,(List.length (p0.2.2.2.2.2.2.1++[(T.s (.bool (!(decide ((!(decide ((qi p0.1 p0.2.2.2.2.2.1)=(qi p0.2.1 p0.2.2.2.2.2.1))))=p0.2.2.2.2.1)))))])),false,(IntKind.wrap .i64 (p0.2.2.2.2.2.1+1)),(p0.2.2.2.2.2.2.1++[(T.s (.bool (!(decide ((!(decide ((qi p0.1 p0.2.2.2.2.2.1)=(qi p0.2.1 p0.2.2.2.2.2.1))))=p0.2.2.2.2.1)))))]),())))
 else
  some (.inl (p0.1,p0.2.1,p0.2.2.1,(List.length (p0.2.2.2.2.2.2.1++[(T.s (.bool (!(decide ((!(decide ((qi p0.1 p0.2.2.2.2.2.1)=(qi p0.2.1 p0.2.2.2.2.2.1))))=p0.2.2.2.2.1)))))])),false,(IntKind.wrap .i64 (p0.2.2.2.2.2.1+1)),(p0.2.2.2.2.2.2.1++[(T.s (.bool (!(decide ((!(decide ((qi p0.1 p0.2.2.2.2.2.1)=(qi p0.2.1 p0.2.2.2.2.2.1))))=p0.2.2.2.2.1)))))]),())))))
 else
  (bif(qi p0.1 p0.2.2.2.2.2.1)then
  (bif(qi p0.2.1 p0.2.2.2.2.2.1)then
  some (.inl (p0.1,p0.2.1,p0.2.2.1,(List.length (p0.2.2.2.2.2.2.1++[(T.s (.bool (!(decide ((!(decide ((qi p0.1 p0.2.2.2.2.2.1)=(qi p0.2.1 p0.2.2.2.2.2.1))))=p0.2.2.2.2.1)))))])),p0.2.2.2.2.1,(IntKind.wrap .i64 (p0.2.2.2.2.2.1+1)),(p0.2.2.2.2.2.2.1++[(T.s (.bool (!(decide ((!(decide ((qi p0.1 p0.2.2.2.2.2.1)=(qi p0.2.1 p0.2.2.2.2.2.1))))=p0.2.2.2.2.1)))))]),()))
 else
  some (.inl (p0.1,p0.2.1,p0.2.2.1,(List.length (p0.2.2.2.2.2.2.1++[(T.s (.bool (!(decide ((!(decide ((qi p0.1 p0.2.2.2.2.2.1)=(qi p0.2.1 p0.2.2.2.2.2.1))))=p0.2.2.2.2.1)))))])),false,(IntKind.wrap .i64 (p0.2.2.2.2.2.1+1)),(p0.2.2.2.2.2.2.1++[(T.s (.bool (!(decide ((!(decide ((qi p0.1 p0.2.2.2.2.2.1)=(qi p0.2.1 p0.2.2.2.2.2.1))))=p0.2.2.2.2.1)))))]),())))
 else
  some (.inl (p0.1,p0.2.1,p0.2.2.1,(List.length (p0.2.2.2.2.2.2.1++[(T.s (.bool (!(decide ((!(decide ((qi p0.1 p0.2.2.2.2.2.1)=(qi p0.2.1 p0.2.2.2.2.2.1))))=p0.2.2.2.2.1)))))])),false,(IntKind.wrap .i64 (p0.2.2.2.2.2.1+1)),(p0.2.2.2.2.2.2.1++[(T.s (.bool (!(decide ((!(decide ((qi p0.1 p0.2.2.2.2.2.1)=(qi p0.2.1 p0.2.2.2.2.2.1))))=p0.2.2.2.2.1)))))]),()))))
 else none)
 else
  some (.inr (p0.1,p0.2.1,p0.2.2.1,p0.2.2.2.1,p0.2.2.2.2.1,p0.2.2.2.2.2.1,p0.2.2.2.2.2.2.1,())))
def qCi  (fu:Nat)(a:(List Bool))(b:(List Bool))(n:Int):Option ((List Bool)×Bool) :=
 (itP fu (YR) (a,b,n,0,false,(0:Int),[],())).bind fun x1=>
 (Su.sub x1.2.2.2.2.2.2.1 0 x1.2.2.2.1).bind fun x2=>
 (qI 4 x2).bind fun x3=>
 some (x3,x1.2.2.2.2.1)
theorem ZH(a:List Bool)(i:Nat):qi a (i:Int)=tb2 (qf a) i:=qs1 a i
theorem qfg(k n:Nat):(qK k n).map eB++[T.s (.bool (tb2 n k))]=(qK (k+1) n).map eB:=by rw[qff,zU];rfl
theorem ZI(k n:Nat):((qK k n).map eB).length=k:=by rw[zn,yh]
theorem qs2(k n:Nat):sub ((qK k n).map eB) 0 k=some ((qK k n).map eB):=by
 have:=qbW (qK k n)
 rwa [ZI]at this
theorem qgP(a b:List Bool)(m:Nat)(c:Bool)(i:Int)(out:List T):YQ (a,b,m,c,i,out,()) =
 bif decide (i<((a.length:Nat):Int))||(decide (i<((b.length:Nat):Int))||c)then
  (bif Nat.beq m out.length&&Nat.ble (out.length+1) 549755813888 then
    some (.inl (a,b,out.length+1,(qi a i&&qi b i||qi a i&&c||qi b i&&c),IntKind.i64.wrap (i+1),out++[T.s (.bool ((qi a i != qi b i) != c))],()))
  else none)
 else some (.inr (a,b,m,c,i,out,())):=by
 simp only[YQ,zp,Kz,zK];generalize qi a i=x
 generalize qi b i=y
 generalize decide (i<((a.length:Nat):Int))=p
 generalize decide (i<((b.length:Nat):Int))=q
 generalize (Nat.beq m out.length&&Nat.ble (out.length+1) 549755813888)=g
 cases p <;> cases q <;> cases x <;> cases y <;> cases c <;> cases g <;> rfl
def yo(p:List Bool×List Bool):Option (List Bool):=bif Nat.ble (max p.1.length p.2.length+1) 549755813888 then some (QH p.1 p.2)else none
theorem qkw{a b:List Bool}{i:Nat}(h:i<a.length∨i<b.length∨cyB (qf a) (qf b) i=true)(hi:i+1≤549755813888) :
 YQ (a,b,i,cyB (qf a) (qf b) i,(i:Int),(qK i (qf a+qf b)).map eB,())=some (.inl (a,b,i+1,cyB (qf a) (qf b) (i+1),((i+1:Nat):Int),(qK (i+1) (qf a+qf b)).map eB,())):=by
 rw[qgP,ZI,ZH,ZH,← qkv,← qku,qfg,w64 (by omega) (by omega)];have h1:Nat.beq i i=true:=Vm _
 have h2:Nat.ble (i+1) 549755813888=true:=by rw[KX];exact hi
 rw[h1,h2];have h3:(decide ((i:Int)<((a.length:Nat):Int))||(decide ((i:Int)<((b.length:Nat):Int))||cyB (qf a) (qf b) i))=true:=by
  rcases h with h | h | h
  · rw[zd (by omega)];rfl
  · rw[zd (by omega:(i:Int)<((b.length:Nat):Int))];simp
  · rw[h];simp
 rw[h3];rfl
theorem qkx{a b:List Bool}{i:Nat}(h1:a.length≤i)(h2:b.length≤i)(h3:cyB (qf a) (qf b) i=false) :
 YQ (a,b,i,cyB (qf a) (qf b) i,(i:Int),(qK i (qf a+qf b)).map eB,())=some (.inr (a,b,i,cyB (qf a) (qf b) i,(i:Int),(qK i (qf a+qf b)).map eB,())):=by
 rw[qgP,zh (by omega),zh (by omega),h3];rfl
theorem qgQ{a b:List Bool}(hN:max a.length b.length+1≤549755813888):∀k i:Nat,i+k=max a.length b.length →
 ∃f,itP f YQ (a,b,i,cyB (qf a) (qf b) i,(i:Int),(qK i (qf a+qf b)).map eB,())=some (a,b,(QH a b).length,false,((QH a b).length:Int),(QH a b).map eB,())
 | 0,i,hk=>by
  have ha:a.length≤i:=by omega
  have hb:b.length≤i:=by omega
  have hi:max a.length b.length=i:=by omega
  have hL:(QH a b).length=i+cy (qf a) (qf b) i:=by unfold QH;rw[yh,hi]
  have hv:QH a b=qK (i+cy (qf a) (qf b) i) (qf a+qf b):=by unfold QH;rw[hi]
  rw[hL,hv];cases hc:cyB (qf a) (qf b) i with
  | false=>
   rw[qbY,hc,← hc];have:=qkx ha hb hc
   rw[hc]at this ⊢;exact yP this
  | true=>
   rw[qbY,hc];have h1:=qkw (a:=a) (b:=b) (i:=i) (.inr (.inr hc)) (by omega)
   have hS:=qs0 (QC ha) (QC hb)
   rw[qbY,hc]at hS;have h2:cyB (qf a) (qf b) (i+1)=false:=qnY hS (zE _)
   have h3:=qkx (a:=a) (b:=b) (i:=i+1) (by omega) (by omega) h2
   rw[hc,h2]at h1;rw[h2]at h3;exact QR h1 (yP h3)
 | k+1,i,hk=>by
  have h:=qkw (a:=a) (b:=b) (i:=i) (by omega) (by omega)
  exact QR h (qgQ hN k (i+1) (by omega))
theorem qyn(p:List Bool×List Bool)(y:List Bool)(hg:(dc (cQ 4 1) (d1 (cQ 4 1))).good p)(h:yo p=some y):∃n,qCg n p.1 p.2=some y:=by
 obtain⟨a,b⟩:=p;obtain⟨hle,h⟩:=qj h;have:=soi h;subst this
 have hle:=zr hle;simp only[]at hle ⊢;obtain⟨f,hf⟩:=qgQ hle (max a.length b.length) 0 (by omega)
 have e:cyB (qf a) (qf b) 0=false:=by unfold cyB;rw[qnX];rfl
 rw[e]at hf;refine⟨f,?_⟩
 unfold qCg;have hf':itP f YQ (a,b,0,false,(0:Int),([]:List T),())=_:=hf
 rw[hf',zj];simp only[];have:=qbW (QH a b)
 rw[zn]at this;rw[this];exact qaa _
def qs3(p:List Bool×List Bool):Option Int:=some (jN (qf p.1) (qf p.2))
theorem qgR(a b:List Bool)(hl:max a.length b.length≤9223372036854775807):∀n:Nat,n≤max a.length b.length→qf a / 2^n=qf b / 2^n →
 ∃f,(itP f JK (a,b,(n:Int)-1,())).bind (fun x1=>(match x1 with
  | .exit i2 p3=>(bif(Nat.beq i2 0)then some 0 else none)
  | .ret o4=>some o4))=some (jN (qf a) (qf b))
 | 0,_,h=>by
  rw[KH,Wq,Wq]at h;rw[h,qpF];obtain⟨f,hf⟩:=yP (F:=JK) (s:=(a,b,((0:Nat):Int)-1,())) (r:=Lp.exit 0 (a,b,((0:Nat):Int)-1,())) (by simp only[JK];rw[zh (by omega)];rfl)
  exact⟨f,by rw[hf];rfl⟩
 | n+1,hn,h=>by
  have e0:((n+1:Nat):Int)-1=(n:Int):=by omega
  rw[e0];by_cases hx:tb2 (qf a) n=tb2 (qf b) n
  · obtain⟨f,hf⟩:=qgR a b hl n (by omega) (qym h hx)
    have hs:JK (a,b,(n:Int),())=some (.inl (a,b,(n:Int)-1,())):=by
     simp only[JK];rw[zd (by omega),zf,ZH,ZH,zd hx,w64 (by omega) (by omega)];rfl
    exact⟨f+1,by rw[qu,hs];exact hf⟩
  · rw[qyl h hx]
    have hs:JK (a,b,(n:Int),())=some (.inr (.ret (bif tb2 (qf a) n then 1 else -1))):=by
     simp only[JK];rw[zd (by omega),zf,ZH,ZH,zh hx];cases tb2 (qf a) n <;> rfl
    obtain⟨f,hf⟩:=yP hs;exact⟨f,by rw[hf];rfl⟩
theorem qyo(p:List Bool×List Bool)(y:Int)(hg:(dc (cQ 4 1) (d1 (cQ 4 1))).good p)(h:qs3 p=some y):∃n,qCh n p.1 p.2=some y:=by
 obtain⟨a,b⟩:=p;have:=soi h;subst this
 have h1:a.length≤9223372036854775807:=by rw[← jc];exact hg.1.2
 have h2:b.length≤9223372036854775807:=by rw[← jc];exact hg.2.2
 obtain⟨f,hf⟩:=qgR a b (by omega) (max a.length b.length) (zE _) (by rw[VP (QC (Nat.le_max_left ..)),VP (QC (Nat.le_max_right ..))])
 refine⟨f,?_⟩
 unfold qCh;simp only[];have e:IntKind.i64.wrap (max ((a.length:Nat):Int) ((b.length:Nat):Int)-1)=((max a.length b.length:Nat):Int)-1:=by
  rw[w64 (by omega) (by omega)];omega
 rw[e];exact hf
theorem qc0(a b:List Bool)(n:Int)(m:Nat)(c:Bool)(i:Int)(out:List T):YR (a,b,n,m,c,i,out,()) =
 bif decide (i<n)then
  (bif Nat.beq m out.length&&Nat.ble (out.length+1) 549755813888 then
    some (.inl (a,b,n,out.length+1,(!qi a i&&(qi b i||c)||qi a i&&qi b i&&c),IntKind.i64.wrap (i+1),out++[T.s (.bool ((qi a i != qi b i) != c))],()))
  else none)
 else some (.inr (a,b,n,m,c,i,out,())):=by
 simp only[YR,zp,Kz,zK];generalize qi a i=x
 generalize qi b i=y
 generalize decide (i<n)=p
 generalize (Nat.beq m out.length&&Nat.ble (out.length+1) 549755813888)=g
 cases p <;> cases x <;> cases y <;> cases c <;> cases g <;> rfl
def QI(p:List Bool×List Bool×Int):Option (List Bool×Bool):=bif decide (qf p.2.1≤qf p.1)&&(Nat.ble p.1.length p.2.2.toNat&&Nat.ble p.2.2.toNat 549755813888)then some (qK p.2.2.toNat (qf p.1-qf p.2.1),false)else none
theorem qgS{a b:List Bool}{N:Nat}(hN:N≤549755813888)(hv:qf b≤qf a):∀k i:Nat,i+k=N →
 ∃f,itP f YR (a,b,(N:Int),i,cyB (qf b) (qf a-qf b) i,(i:Int),(qK i (qf a-qf b)).map eB,())=some (a,b,(N:Int),N,cyB (qf b) (qf a-qf b) N,(N:Int),(qK N (qf a-qf b)).map eB,())
 | 0,i,hk=>by
  have:i=N:=by omega
  subst this;exact yP (by rw[qc0,zh (by omega)];rfl)
 | k+1,i,hk=>by
  refine QR ?_ (qgS hN hv k (i+1) (by omega))
  rw[qc0,zd (by omega),ZI,ZH,ZH,← qnZ hv,← qCf hv,qfg,w64 (by omega) (by omega)];have h1:Nat.beq i i=true:=Vm _
  have h2:Nat.ble (i+1) 549755813888=true:=by rw[KX];omega
  rw[h1,h2];rfl
theorem qyp(p:List Bool×List Bool×Int)(y:List Bool×Bool)(hg:(dc (cQ 4 1) (dc (cQ 4 1) (d1 (cI .i64)))).good p)(h:QI p=some y):∃n,qCi n p.1 p.2.1 p.2.2=some y:=by
 obtain⟨a,b,n⟩:=p;obtain⟨hle,h⟩:=qj h;have:=soi h;subst this
 simp only[zl,zy,KX]at hle;obtain⟨h1,h2,h3⟩:=hle;simp only[];have main:∃f,itP f YR (a,b,n,0,false,(0:Int),([]:List T),())=some (a,b,n,n.toNat,false,((n.toNat:Nat):Int),(qK n.toNat (qf a-qf b)).map eB,())∨(n<0∧itP f YR (a,b,n,0,false,(0:Int),([]:List T),())=some (a,b,n,0,false,(0:Int),([]:List T),())):=by
  by_cases hn:n<0
  · obtain⟨f,hf⟩:=yP (F:=YR) (s:=(a,b,n,0,false,(0:Int),([]:List T),())) (r:=(a,b,n,0,false,(0:Int),([]:List T),())) (by rw[qc0,zh (by omega)];rfl)
    exact⟨f,.inr ⟨hn,hf⟩⟩
  · obtain⟨N,rfl⟩:∃N:Nat,n=(N:Int):=⟨n.toNat,by omega⟩
    rw[zm]at h2 h3 ⊢;obtain⟨f,hf⟩:=qgS (N:=N) h3 h1 N 0 (by omega)
    have e:cyB (qf b) (qf a-qf b) 0=false:=by unfold cyB;rw[qnX];rfl
    have e2:cyB (qf b) (qf a-qf b) N=false:=qnY (n:=N) (by have:=QC h2;omega) (zE _)
    rw[e,e2]at hf;exact⟨f,.inl hf⟩
 obtain⟨f,hf⟩:=main;refine⟨f,?_⟩
 unfold qCi;rcases hf with hf | ⟨hn,hf⟩
 · rw[hf,zj]
   simp only[];rw[qs2,zj,qaa];rfl
 · rw[hf,zj]
   have:n.toNat=0:=by omega
   rw[this];rfl
noncomputable def wdL:{f:Nat→List Bool // ∀n,f n=qK 64 n}:=Classical.choice ⟨⟨_,fun _=>rfl⟩⟩
noncomputable def wdB(w:Int):List Bool:=wdL.1 w.toNat
theorem qiJ(w:Int):wdB w=qK 64 w.toNat:=wdL.2 _
noncomputable def qz6(l:List Int):Option (List Bool):=bif Nat.ble (64*l.length) 549755813888 then some (l.map wdB).flatten else none
theorem qs4{w k:Nat}(hw:w<18446744073709551616)(hk:k<64):decide (Fly.qz BinOp.and .u64 (Int.fdiv (w:Int) (2^(min (Int.toNat (IntKind.u64.wrap (k:Int))) 64))) 1=1)=tb2 w k:=by
 rw[Jv (by omega) (by omega),zm,Vb (by omega),yQ];have h1:w / 2^k<18446744073709551616:=VA (Wy _ _) hw
 have:=YG (w / 2^k) 1 1 (by decide) h1 (by decide)
 rw[show((1:Nat):Int)=1 from rfl,Nat.pow_one]at this;rw[this];unfold tb2;rcases Vj (w / 2^k)with h | h <;> rw[h] <;> rfl
theorem qs5(l:List Int)(i w:Nat)(hi:l[i]?=some (w:Int))(hw:w<18446744073709551616)(out:List T)(hb:out.length+64≤549755813888):∀(f j k:Nat),k+j=64→j<f →
 itP f qcY (l,out.length+k,(i:Int),(k:Int),out++(qK k w).map eB,())=some (l,out.length+64,(i:Int),(64:Int),out++(qK 64 w).map eB,())
 | 0,_,_,_,h=>absurd h (by omega)
 | f+1,0,k,h,_=>by
  have:k=64:=by omega
  subst this;rw[qu];simp only[qcY];rw[zh (by omega)];rfl
 | f+1,j+1,k,h,hf=>by
  have ih:=qs5 l i w hi hw out hb f j (k+1) (by omega) (by omega)
  rw[qu];have hs:qcY (l,out.length+k,(i:Int),(k:Int),out++(qK k w).map eB,())=some (.inl (l,out.length+(k+1),(i:Int),((k+1:Nat):Int),out++(qK (k+1) w).map eB,())):=by
   simp only[qcY];rw[zd (by omega:(k:Int)<64),zf,jL,hi,zj,qs4 hw (by omega),Jv (by omega) (by omega),zd (by omega),zf,zM,qfg,w64 (by omega) (by omega)];have e1:(out++(qK k w).map eB).length=out.length+k:=by rw[zp,ZI]
   have e2:(out++(qK (k+1) w).map eB).length=out.length+(k+1):=by rw[zp,ZI]
   have h1:Nat.beq (out.length+k) (out.length+k)=true:=Vm _
   have h2:Nat.ble (out.length+k+[T.s (.bool (tb2 w k))].length) 549755813888=true:=by rw[KX,Kz];omega
   rw[e1,e2,h1,h2];rfl
  rw[hs];exact ih
def yA(l:List Int)(i:Nat):List Bool:=((l.take i).map fun w=>qK 64 w.toNat).flatten
theorem qdw(l:List Int)(i:Nat)(h:i<l.length):yA l (i+1)=yA l i++qK 64 l[i].toNat:=by
 unfold yA;rw[List.take_succ_eq_append_getElem h,zU,List.flatten_append];simp
theorem qfh(l:List Int)(i:Nat)(h:i≤l.length):(yA l i).length=64*i:=by
 induction i with
 | zero=>rfl
 | succ i ih=>rw[qdw l i (by omega),zp,ih (by omega),yh];omega
theorem qky(l:List Int)(hl:64*l.length≤549755813888)(hg:∀x∈l,inR .u64 x=true):∀(f j i:Nat),i+j=l.length→j<f →
 itP f (qcZ (l.length+65)) (l,64*i,(i:Int),(yA l i).map eB,())=some (l,64*l.length,(l.length:Int),(yA l l.length).map eB,())
 | 0,_,_,_,h=>absurd h (by omega)
 | f+1,0,i,h,_=>by
  have:i=l.length:=by omega
  subst this;rw[qu];simp only[qcZ];rw[zh (by omega)];rfl
 | f+1,j+1,i,h,hf=>by
  have ih:=qky l hl hg f j (i+1) (by omega) (by omega)
  have hi:i<l.length:=by omega
  obtain⟨w,hw,hw2⟩:=qG (hg _ (List.getElem_mem hi))
  have hlen:((yA l i).map eB).length=64*i:=by rw[zn,qfh l i (by omega)]
  have hin:=qs5 l i w (by rw[zG hi,hw]) hw2 ((yA l i).map eB) (by omega) (l.length+65) 64 0 (by omega) (by omega)
  rw[hlen,Kr]at hin;have hin':itP (l.length+65) qcY (l,64*i,(i:Int),(0:Int),(yA l i).map eB,())=some (l,64*i+64,(i:Int),(64:Int),(yA l i).map eB++(qK 64 w).map eB,()):=by
   rw[← hin];simp[qK]
  rw[qu];have hs:qcZ (l.length+65) (l,64*i,(i:Int),(yA l i).map eB,())=some (.inl (l,64*(i+1),((i+1:Nat):Int),(yA l (i+1)).map eB,())):=by
   simp only[qcZ];rw[zd (by omega:(i:Int)<((l.length:Nat):Int)),zf,hin',zj];simp only[];rw[w64 (by omega) (by omega),qdw l i hi,zU,hw,zm];rfl
  rw[hs];exact ih
theorem qCj(l:List Int)(y:List Bool)(hg:(d1 (cQ 2 1)).good l)(h:qz6 l=some y):∃n,bOf n l=some y:=by
 obtain⟨hle,h⟩:=qj h;have:=soi h;subst this
 have hle:64*l.length≤549755813888:=zr hle
 refine⟨l.length+65,?_⟩
 unfold bOf;have:=qky l hle hg.1 (l.length+65) l.length 0 (by omega) (by omega)
 have h':itP (l.length+65) (qcZ (l.length+65)) (l,0,(0:Int),([]:List T),())=_:=this
 rw[h',zj];simp only[];have hw:yA l l.length=(l.map wdB).flatten:=by unfold yA;rw[WI,show wdB=(fun w:Int=>qK 64 w.toNat) from funext qiJ]
 have h3:=qbW (yA l l.length)
 rw[zn,qfh l _ (zE _)]at h3;rw[h3,← hw];exact qaa _
end
end Su
end
section
namespace Su
open Go Fly
noncomputable section
def qb0:Stp ((List Bool)×(List Bool)×(List Bool)×Int×Unit):=fun p0=>(bif(decide (p0.2.2.2.1<(List.length p0.2.1:Int)))then
 (idx p0.2.1 p0.2.2.2.1).bind fun x1=>
 (bif x1 then
 (jv (p0.1,p0.2.2.2.1)).bind fun x2=>
 (yo (p0.2.2.1,x2)).bind fun x3=>
 some (.inl (p0.1,p0.2.1,x3,(IntKind.wrap .i64 (p0.2.2.2.1+1)),()))
 else
  some (.inl (p0.1,p0.2.1,p0.2.2.1,(IntKind.wrap .i64 (p0.2.2.2.1+1)),())))
 else
  some (.inr (p0.1,p0.2.1,p0.2.2.1,p0.2.2.2.1,())))
def qCk  (fu:Nat)(a:(List Bool))(b:(List Bool)):Option (List Bool) :=
 (itP fu (qb0) (a,b,[],(0:Int),())).bind fun x4=>
 some x4.2.2.1
def qmd  (f:Int):Option (Bool×Int×Int) :=
 some ((decide ((IntKind.wrap .u64 (Int.tdiv f 9223372036854775808))=1)),(IntKind.wrap .i64 (Int.tmod (IntKind.wrap .u64 (Int.tdiv f 4503599627370496)) 2048)),(Int.tmod f 4503599627370496))
def qs6  (neg:Bool)(exp:Int)(fr:Int):Option Int :=
 (bif neg then
 some (IntKind.wrap .u64 ((IntKind.wrap .u64 ((IntKind.wrap .u64 ((IntKind.wrap .u64 exp)*4503599627370496))+fr))+9223372036854775808))
 else
  some (IntKind.wrap .u64 ((IntKind.wrap .u64 ((IntKind.wrap .u64 exp)*4503599627370496))+fr)))
def qme  (f:Int):Option Int :=
 (bif(decide ((IntKind.wrap .i64 (Int.tmod (IntKind.wrap .u64 (Int.tdiv f 4503599627370496)) 2048))=2047))then
 (bif(decide ((Int.tmod f 4503599627370496)=0))then
 some 3
 else
  (bif(decide ((IntKind.wrap .i64 (Int.tmod (IntKind.wrap .u64 (Int.tdiv f 4503599627370496)) 2048))=2047))then
  some 4
 else
  (bif(decide ((IntKind.wrap .i64 (Int.tmod (IntKind.wrap .u64 (Int.tdiv f 4503599627370496)) 2048))=0))then
  (bif(decide ((Int.tmod f 4503599627370496)=0))then
  some 0
 else
  (bif(decide ((IntKind.wrap .i64 (Int.tmod (IntKind.wrap .u64 (Int.tdiv f 4503599627370496)) 2048))=0))then
  some 1
 else
  some 2))
 else
  (bif(decide ((IntKind.wrap .i64 (Int.tmod (IntKind.wrap .u64 (Int.tdiv f 4503599627370496)) 2048))=0))then
  some 1
 else
  some 2))))
 else
  (bif(decide ((IntKind.wrap .i64 (Int.tmod (IntKind.wrap .u64 (Int.tdiv f 4503599627370496)) 2048))=2047))then
  some 4
 else
  (bif(decide ((IntKind.wrap .i64 (Int.tmod (IntKind.wrap .u64 (Int.tdiv f 4503599627370496)) 2048))=0))then
  (bif(decide ((Int.tmod f 4503599627370496)=0))then
  some 0
 else
  (bif(decide ((IntKind.wrap .i64 (Int.tmod (IntKind.wrap .u64 (Int.tdiv f 4503599627370496)) 2048))=0))then
  some 1
 else
  some 2))
 else
  (bif(decide ((IntKind.wrap .i64 (Int.tmod (IntKind.wrap .u64 (Int.tdiv f 4503599627370496)) 2048))=0))then
  some 1
 else
  some 2))))
def Jw(a b:List Bool):Nat→List Bool
 | 0=>[]
 | i+1=>bif tb2 (qf b) i then QH (Jw a b i) (List.replicate i false++a)else Jw a b i
def qkz(a b:List Bool):List Bool:=Jw a b b.length
theorem Yg(n:Nat)(a:List Bool):qf (List.replicate n false++a)=2^n*qf a:=by rw[qbU,qsX,KN];omega
theorem qb1(a b:List Bool):∀i,(Jw a b i).length≤a.length+i
 | 0=>by simp[Jw]
 | i+1=>by
  have ih:=qb1 a b i;unfold Jw;cases tb2 (qf b) i with
  | false=>rw[zi];omega
  | true=>
   rw[zf];have:=ZG (Jw a b i) (List.replicate i false++a)
   rw[zp,KN]at this;omega
theorem qkA(a b:List Bool):∀i,qf (Jw a b i)=qf a*(qf b % 2^i)
 | 0=>by simp[Jw,qf,Nat.mod_one]
 | i+1=>by
  have ih:=qkA a b i;have hb:=qbX (qf b / 2^i)
  rw[Nat.mod_pow_succ (x:=qf b) (b:=2) (k:=i),hb];unfold Jw;rw[show(qf b / 2^i % 2 == 1)=tb2 (qf b) i from rfl];cases tb2 (qf b) i with
  | false=>rw[zi,WF,VS,Kr];exact ih
  | true=>rw[zf,Bool.toNat_true,Wo,qbZ,ih,Yg,Ws,Kw (2^i)]
theorem qkB(a b:List Bool):qf (qkz a b)=qf a*qf b:=by
 unfold qkz;rw[qkA,Kq (Z9 b)]
def qaT(p:List Bool×List Bool):Option (List Bool):=bif Nat.ble (p.1.length+p.2.length+1) 549755813888 then some (qkz p.1 p.2)else none
theorem qgT{a b:List Bool}(hN:a.length+b.length+1≤549755813888):∀k i:Nat,i+k=b.length →
 ∃f,itP f qb0 (a,b,Jw a b i,(i:Int),())=some (a,b,Jw a b b.length,(b.length:Int),())
 | 0,i,hk=>by
  have:i=b.length:=by omega
  subst this;exact yP (by simp only[qb0];rw[zh (by omega)];rfl)
 | k+1,i,hk=>by
  refine QR (s':=(a,b,Jw a b (i+1),((i+1:Nat):Int),())) ?_ (qgT hN k (i+1) (by omega))
  have hi:i<b.length:=by omega
  have hb:b[i]=tb2 (qf b) i:=by
   have:=qCe b i
   rw[zG hi]at this;exact this
  simp only[qb0];rw[zd (by omega:(i:Int)<((b.length:Nat):Int)),zf,jL,zG hi,zj,hb,w64 (by omega) (by omega)];cases h:tb2 (qf b) i with
  | false=>
   rw[zi,show Jw a b (i+1)=Jw a b i by rw[Jw,h];rfl];rfl
  | true=>
   rw[zf,show Jw a b (i+1)=QH (Jw a b i) (List.replicate i false++a) by rw[Jw,h];rfl];have h1:jv (a,(i:Int))=some (List.replicate i false++a):=by
    unfold jv;simp only[zm];have:Nat.ble (i+a.length) 549755813888=true:=by rw[KX];omega
    rw[this];rfl
   have h2:yo (Jw a b i,List.replicate i false++a)=some (QH (Jw a b i) (List.replicate i false++a)):=by
    unfold yo;have hl:=qb1 a b i;have:Nat.ble (max (Jw a b i).length (List.replicate i false++a).length+1) 549755813888=true:=by rw[KX,zp,KN];omega
    simp only[];rw[this];rfl
   rw[h1,zj,h2];rfl
theorem qyq(p:List Bool×List Bool)(y:List Bool)(hg:(dc (cQ 4 1) (d1 (cQ 4 1))).good p)(h:qaT p=some y):∃n,qCk n p.1 p.2=some y:=by
 obtain⟨a,b⟩:=p;obtain⟨hle,h⟩:=qj h;have:=soi h;subst this
 have hle:=zr hle;obtain⟨f,hf⟩:=qgT (a:=a) (b:=b) hle b.length 0 (by omega)
 refine⟨f,?_⟩
 unfold qCk;have hf':itP f qb0 (a,b,([]:List Bool),(0:Int),())=_:=hf
 rw[hf'];rfl
theorem qiK(m n:Nat):Int.tdiv (m:Int) (n:Int)=((m / n:Nat):Int):=rfl
theorem qiL(m n:Nat):Int.tmod (m:Int) (n:Int)=((m % n:Nat):Int):=rfl
theorem td63{f:Nat}(h:f<18446744073709551616):decide (IntKind.u64.wrap (Int.tdiv (f:Int) 9223372036854775808)=1)=bS f:=by
 rw[show(9223372036854775808:Int)=((9223372036854775808:Nat):Int) from rfl,qiK,Jv (by omega) (by omega)];refine bB ?_
 rw[JU];constructor
 · intro h;have:f / 9223372036854775808=1:=by omega
   rw[this];rfl
 · intro h;omega
theorem tdE{f:Nat}(h:f<18446744073709551616):IntKind.i64.wrap (Int.tmod (IntKind.u64.wrap (Int.tdiv (f:Int) 4503599627370496)) 2048)=((bK f / 4503599627370496:Nat):Int):=by
 rw[show(4503599627370496:Int)=((4503599627370496:Nat):Int) from rfl,qiK,Jv (by omega) (by omega),show(2048:Int)=((2048:Nat):Int) from rfl,qiL,w64 (by omega) (by omega)]
 congr 1
 unfold bK;omega
theorem tmF(f:Nat):Int.tmod (f:Int) 4503599627370496=((bK f % 4503599627370496:Nat):Int):=by
 rw[show(4503599627370496:Int)=((4503599627370496:Nat):Int) from rfl,qiL]
 congr 1
 unfold bK;omega
def qkC(f:Int):Option (Bool×Int×Int):=some (bS f.toNat,((bK f.toNat / 4503599627370496:Nat):Int),((bK f.toNat % 4503599627370496:Nat):Int))
theorem qpG(f:Int)(y:Bool×Int×Int)(hg:(d1 (cI .u64)).good f)(h:qkC f=some y):qmd f=some y:=by
 obtain⟨n,rfl,hn⟩:=qG hg;have:=soi h;subst this
 unfold qmd;rw[td63 hn,tdE hn,tmF,zm]
def QV(p:Bool×Int×Int):Option Int:=bif decide (0≤p.2.1)&&decide (p.2.1≤2047)&&decide (p.2.2≤4503599627370495)then some ((sgN p.1+(4503599627370496*p.2.1.toNat+p.2.2.toNat):Nat):Int)else none
theorem qs7(p:Bool×Int×Int)(y:Int)(hg:(dc cB (dc (cI .i64) (d1 (cI .u64)))).good p)(h:QV p=some y):qs6 p.1 p.2.1 p.2.2=some y:=by
 obtain⟨neg,e,fr⟩:=p;obtain⟨_,he,hf⟩:=hg;obtain⟨F,rfl,hF⟩:=qG hf;obtain⟨hc,h⟩:=qj h;have:=soi h;subst this
 simp only[zl,zy]at hc;obtain⟨⟨h1,h2⟩,h3⟩:=hc;obtain⟨E,rfl⟩:∃E:Nat,e=(E:Int):=⟨e.toNat,by omega⟩
 unfold qs6;simp only[zm];rw[Jv (n:=(E:Int)) (by omega) (by omega),Jv (n:=(E:Int)*4503599627370496) (by omega) (by omega),Jv (n:=(E:Int)*4503599627370496+(F:Int)) (by omega) (by omega)];unfold sgN;cases neg with
 | false=>simp only[zi];congr 1;omega
 | true=>
  simp only[zf];rw[Jv (by omega) (by omega)];congr 1;omega
def qkD(f:Int):Option Int:=some ((qA (bK f.toNat):Nat):Int)
theorem qpH(f:Int)(y:Int)(hg:(d1 (cI .u64)).good f)(h:qkD f=some y):qme f=some y:=by
 obtain⟨n,rfl,hn⟩:=qG hg;have:=soi h;subst this
 unfold qme;rw[tdE hn,tmF,zm];have hk:=qaw n;generalize bK n=k at *
 have e:k=k / 4503599627370496*4503599627370496+k % 4503599627370496:=by omega
 have he:k / 4503599627370496≤2047:=by omega
 have hf:k % 4503599627370496<4503599627370496:=by omega
 have hc:=qnp he hf;rw[← e]at hc;rw[hc];generalize k / 4503599627370496=E at *
 generalize k % 4503599627370496=F at *
 rw[show(2047:Int)=((2047:Nat):Int) from rfl,show(0:Int)=((0:Nat):Int) from rfl,Jq,Jq,Jq];by_cases h1:E=2047
 · subst h1
   by_cases h2:F=0
   · subst h2;rfl
   · simp[h2]
 · by_cases h2:E=0
   · subst h2
     by_cases h3:F=0
     · subst h3;rfl
     · simp[h3]
   · simp[h1,h2]
end
end Su
end
