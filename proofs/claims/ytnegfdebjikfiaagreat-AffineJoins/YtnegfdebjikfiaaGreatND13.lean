/-
  What functions of the program compute, in plain Lean, and that the evaluator finds it.
-/
import Derived.Test.YtnegfdebjikfiaaGreatSuXl
import Derived.Test.YtnegfdebjikfiaaGreatND12
set_option linter.unusedVariables false
set_option linter.unusedSimpArgs false
set_option maxRecDepth 10000
namespace Su
open Go Fly
noncomputable section
def rASl  (a:Int)(b:Int):Option Int :=
 some (qJ (qJ a b 1) (Y5 (qJ a b 2)) 1)
def rMSl  (a:Int)(b:Int):Option Int :=
 some (qJ (qcT a b 1) (Y5 (qcT a b 2)) 1)
abbrev qc1:=(Int×Bool×Int×(List Int)×(List Int)×Int×Unit)
def qae:qc1→Option (qc1 ⊕ (Lp qc1 Bool)):=fun p0=>(bif(decide (p0.1<(List.length p0.2.2.2.1:Int)))then
 (idx p0.2.2.2.1 p0.1).bind fun x1=>
 (bif(decide (x1<0))then
 some (.inr (.ret false))
 else
  (bif(decide (0<p0.1))then
  (idx p0.2.2.2.1 p0.1).bind fun x2=>
  (idx p0.2.2.2.1 (IntKind.wrap .i64 (p0.1-1))).bind fun x3=>
  (bif(decide (x2≤x3))then
  some (.inr (.ret false))
 else
  (idx p0.2.2.2.2.1 p0.1).bind fun x4=>
  (bif(!(jo (bK x4.toNat)))then
  some (.inr (.ret false))
 else
  (idx p0.2.2.2.2.1 p0.1).bind fun x5=>
  (bif(decide ((((qA (bK x5.toNat)):Nat):Int)=0))then
  some (.inr (.ret false))
 else
  some (.inl ((IntKind.wrap .i64 (p0.1+1)),p0.2.1,p0.2.2.1,p0.2.2.2.1,p0.2.2.2.2.1,p0.2.2.2.2.2.1,())))))
 else
  (idx p0.2.2.2.2.1 p0.1).bind fun x6=>
  (bif(!(jo (bK x6.toNat)))then
  some (.inr (.ret false))
 else
  (idx p0.2.2.2.2.1 p0.1).bind fun x7=>
  (bif(decide ((((qA (bK x7.toNat)):Nat):Int)=0))then
  some (.inr (.ret false))
 else
  some (.inl ((IntKind.wrap .i64 (p0.1+1)),p0.2.1,p0.2.2.1,p0.2.2.2.1,p0.2.2.2.2.1,p0.2.2.2.2.2.1,()))))))
 else
  some (.inr (.exit 0 (p0.1,p0.2.1,p0.2.2.1,p0.2.2.2.1,p0.2.2.2.2.1,p0.2.2.2.2.2.1,()))))
def qyI  (fu:Nat)(a:(Bool×Int×(List Int)×(List Int)×Int)):Option Bool :=
 (bif a.1 then
 (bif(decide (a.2.1=0))then
 (bif(decide (a.2.2.2.2=0))then
 some (decide ((List.length a.2.2.1:Int)=0))
 else
  some false)
 else
  some false)
 else
  (bif(!(jo (bK a.2.1.toNat)))then
  some false
 else
  (bif(!(jo (bK a.2.2.2.2.toNat)))then
  some false
 else
  (bif(decide (a.2.1=9223372036854775808))then
  some false
 else
  (bif(decide ((Int.fdiv a.2.2.2.2 (2^63))=1))then
  some false
 else
  (itP fu (qae) ((0:Int),a.1,a.2.1,a.2.2.1,a.2.2.2.1,a.2.2.2.2,())).bind fun x8=>
  (match x8 with
 | .exit i9 p10=>(bif(Nat.beq i9 0)then
  some true
 else none)
 | .ret o11=>some o11))))))
def Yl:Stp (Bool×Int×Bool×Int×(List Int)×(List Int)×Int×(List T)×(List T)×Bool×Int×Nat×Nat×Int×Bool×Int×Nat×Nat×Int×(List T)×(List T)×Unit):=fun p0=>(bif(decide (p0.2.1<(List.length p0.2.2.2.2.1:Int)))then
 (bif p0.1 then
 (idx p0.2.2.2.2.2.1 p0.2.1).bind fun x1=>
 (idx p0.2.2.2.2.2.1 p0.2.1).bind fun x2=>
 (bif(!(decide ((((qA (bK x2.toNat)):Nat):Int)=0)))then
 (idx p0.2.2.2.2.1 p0.2.1).bind fun x3=>
 (bif((true&&(Nat.beq p0.2.2.2.2.2.2.2.2.2.2.2.2.2.2.2.2.1 p0.2.2.2.2.2.2.2.2.2.2.2.2.2.2.2.2.2.2.2.1.length))&&(Nat.ble (p0.2.2.2.2.2.2.2.2.2.2.2.2.2.2.2.2.2.2.2.1.length+(List.length [(T.s (.int .i64 x3))])) 549755813888))then
 (idx p0.2.2.2.2.2.1 p0.2.1).bind fun x4=>
 (bif((true&&(Nat.beq p0.2.2.2.2.2.2.2.2.2.2.2.2.2.2.2.2.2.1 p0.2.2.2.2.2.2.2.2.2.2.2.2.2.2.2.2.2.2.2.2.1.length))&&(Nat.ble (p0.2.2.2.2.2.2.2.2.2.2.2.2.2.2.2.2.2.2.2.2.1.length+(List.length [(T.s (.int .u64 x4))])) 549755813888))then
 some (.inl ((jo (bK x1.toNat)),(IntKind.wrap .i64 (p0.2.1+1)),p0.2.2.1,p0.2.2.2.1,p0.2.2.2.2.1,p0.2.2.2.2.2.1,p0.2.2.2.2.2.2.1,p0.2.2.2.2.2.2.2.1,p0.2.2.2.2.2.2.2.2.1,p0.2.2.2.2.2.2.2.2.2.1,p0.2.2.2.2.2.2.2.2.2.2.1,p0.2.2.2.2.2.2.2.2.2.2.2.1,p0.2.2.2.2.2.2.2.2.2.2.2.2.1,p0.2.2.2.2.2.2.2.2.2.2.2.2.2.1,p0.2.2.2.2.2.2.2.2.2.2.2.2.2.2.1,p0.2.2.2.2.2.2.2.2.2.2.2.2.2.2.2.1,(List.length (p0.2.2.2.2.2.2.2.2.2.2.2.2.2.2.2.2.2.2.2.1++[(T.s (.int .i64 x3))])),(List.length (p0.2.2.2.2.2.2.2.2.2.2.2.2.2.2.2.2.2.2.2.2.1++[(T.s (.int .u64 x4))])),p0.2.2.2.2.2.2.2.2.2.2.2.2.2.2.2.2.2.2.1,(p0.2.2.2.2.2.2.2.2.2.2.2.2.2.2.2.2.2.2.2.1++[(T.s (.int .i64 x3))]),(p0.2.2.2.2.2.2.2.2.2.2.2.2.2.2.2.2.2.2.2.2.1++[(T.s (.int .u64 x4))]),()))
 else none)
 else none)
 else
  some (.inl ((jo (bK x1.toNat)),(IntKind.wrap .i64 (p0.2.1+1)),p0.2.2.1,p0.2.2.2.1,p0.2.2.2.2.1,p0.2.2.2.2.2.1,p0.2.2.2.2.2.2.1,p0.2.2.2.2.2.2.2.1,p0.2.2.2.2.2.2.2.2.1,p0.2.2.2.2.2.2.2.2.2.1,p0.2.2.2.2.2.2.2.2.2.2.1,p0.2.2.2.2.2.2.2.2.2.2.2.1,p0.2.2.2.2.2.2.2.2.2.2.2.2.1,p0.2.2.2.2.2.2.2.2.2.2.2.2.2.1,p0.2.2.2.2.2.2.2.2.2.2.2.2.2.2.1,p0.2.2.2.2.2.2.2.2.2.2.2.2.2.2.2.1,p0.2.2.2.2.2.2.2.2.2.2.2.2.2.2.2.2.1,p0.2.2.2.2.2.2.2.2.2.2.2.2.2.2.2.2.2.1,p0.2.2.2.2.2.2.2.2.2.2.2.2.2.2.2.2.2.2.1,p0.2.2.2.2.2.2.2.2.2.2.2.2.2.2.2.2.2.2.2.1,p0.2.2.2.2.2.2.2.2.2.2.2.2.2.2.2.2.2.2.2.2.1,())))
 else
  (idx p0.2.2.2.2.2.1 p0.2.1).bind fun x5=>
  (bif(!(decide ((((qA (bK x5.toNat)):Nat):Int)=0)))then
  (idx p0.2.2.2.2.1 p0.2.1).bind fun x6=>
  (bif((true&&(Nat.beq p0.2.2.2.2.2.2.2.2.2.2.2.2.2.2.2.2.1 p0.2.2.2.2.2.2.2.2.2.2.2.2.2.2.2.2.2.2.2.1.length))&&(Nat.ble (p0.2.2.2.2.2.2.2.2.2.2.2.2.2.2.2.2.2.2.2.1.length+(List.length [(T.s (.int .i64 x6))])) 549755813888))then
  (idx p0.2.2.2.2.2.1 p0.2.1).bind fun x7=>
  (bif((true&&(Nat.beq p0.2.2.2.2.2.2.2.2.2.2.2.2.2.2.2.2.2.1 p0.2.2.2.2.2.2.2.2.2.2.2.2.2.2.2.2.2.2.2.2.1.length))&&(Nat.ble (p0.2.2.2.2.2.2.2.2.2.2.2.2.2.2.2.2.2.2.2.2.1.length+(List.length [(T.s (.int .u64 x7))])) 549755813888))then
  some (.inl (false,(IntKind.wrap .i64 (p0.2.1+1)),p0.2.2.1,p0.2.2.2.1,p0.2.2.2.2.1,p0.2.2.2.2.2.1,p0.2.2.2.2.2.2.1,p0.2.2.2.2.2.2.2.1,p0.2.2.2.2.2.2.2.2.1,p0.2.2.2.2.2.2.2.2.2.1,p0.2.2.2.2.2.2.2.2.2.2.1,p0.2.2.2.2.2.2.2.2.2.2.2.1,p0.2.2.2.2.2.2.2.2.2.2.2.2.1,p0.2.2.2.2.2.2.2.2.2.2.2.2.2.1,p0.2.2.2.2.2.2.2.2.2.2.2.2.2.2.1,p0.2.2.2.2.2.2.2.2.2.2.2.2.2.2.2.1,(List.length (p0.2.2.2.2.2.2.2.2.2.2.2.2.2.2.2.2.2.2.2.1++[(T.s (.int .i64 x6))])),(List.length (p0.2.2.2.2.2.2.2.2.2.2.2.2.2.2.2.2.2.2.2.2.1++[(T.s (.int .u64 x7))])),p0.2.2.2.2.2.2.2.2.2.2.2.2.2.2.2.2.2.2.1,(p0.2.2.2.2.2.2.2.2.2.2.2.2.2.2.2.2.2.2.2.1++[(T.s (.int .i64 x6))]),(p0.2.2.2.2.2.2.2.2.2.2.2.2.2.2.2.2.2.2.2.2.1++[(T.s (.int .u64 x7))]),()))
 else none)
 else none)
 else
  some (.inl (false,(IntKind.wrap .i64 (p0.2.1+1)),p0.2.2.1,p0.2.2.2.1,p0.2.2.2.2.1,p0.2.2.2.2.2.1,p0.2.2.2.2.2.2.1,p0.2.2.2.2.2.2.2.1,p0.2.2.2.2.2.2.2.2.1,p0.2.2.2.2.2.2.2.2.2.1,p0.2.2.2.2.2.2.2.2.2.2.1,p0.2.2.2.2.2.2.2.2.2.2.2.1,p0.2.2.2.2.2.2.2.2.2.2.2.2.1,p0.2.2.2.2.2.2.2.2.2.2.2.2.2.1,p0.2.2.2.2.2.2.2.2.2.2.2.2.2.2.1,p0.2.2.2.2.2.2.2.2.2.2.2.2.2.2.2.1,p0.2.2.2.2.2.2.2.2.2.2.2.2.2.2.2.2.1,p0.2.2.2.2.2.2.2.2.2.2.2.2.2.2.2.2.2.1,p0.2.2.2.2.2.2.2.2.2.2.2.2.2.2.2.2.2.2.1,p0.2.2.2.2.2.2.2.2.2.2.2.2.2.2.2.2.2.2.2.1,p0.2.2.2.2.2.2.2.2.2.2.2.2.2.2.2.2.2.2.2.2.1,()))))
 else
  some (.inr (p0.1,p0.2.1,p0.2.2.1,p0.2.2.2.1,p0.2.2.2.2.1,p0.2.2.2.2.2.1,p0.2.2.2.2.2.2.1,p0.2.2.2.2.2.2.2.1,p0.2.2.2.2.2.2.2.2.1,p0.2.2.2.2.2.2.2.2.2.1,p0.2.2.2.2.2.2.2.2.2.2.1,p0.2.2.2.2.2.2.2.2.2.2.2.1,p0.2.2.2.2.2.2.2.2.2.2.2.2.1,p0.2.2.2.2.2.2.2.2.2.2.2.2.2.1,p0.2.2.2.2.2.2.2.2.2.2.2.2.2.2.1,p0.2.2.2.2.2.2.2.2.2.2.2.2.2.2.2.1,p0.2.2.2.2.2.2.2.2.2.2.2.2.2.2.2.2.1,p0.2.2.2.2.2.2.2.2.2.2.2.2.2.2.2.2.2.1,p0.2.2.2.2.2.2.2.2.2.2.2.2.2.2.2.2.2.2.1,p0.2.2.2.2.2.2.2.2.2.2.2.2.2.2.2.2.2.2.2.1,p0.2.2.2.2.2.2.2.2.2.2.2.2.2.2.2.2.2.2.2.2.1,())))
def qkG:Stp (Bool×Int×Bool×Int×(List Int)×(List Int)×Int×(List T)×(List T)×Bool×Int×Nat×Nat×Int×Bool×Int×Nat×Nat×Int×(List T)×(List T)×Unit):=fun p16=>(bif(decide (p16.2.1<(List.length p16.2.2.2.2.1:Int)))then
 (bif p16.1 then
 (idx p16.2.2.2.2.2.1 p16.2.1).bind fun x17=>
 (idx p16.2.2.2.2.2.1 p16.2.1).bind fun x18=>
 (bif(!(decide ((((qA (bK x18.toNat)):Nat):Int)=0)))then
 (idx p16.2.2.2.2.1 p16.2.1).bind fun x19=>
 (bif((true&&(Nat.beq p16.2.2.2.2.2.2.2.2.2.2.2.2.2.2.2.2.1 p16.2.2.2.2.2.2.2.2.2.2.2.2.2.2.2.2.2.2.2.1.length))&&(Nat.ble (p16.2.2.2.2.2.2.2.2.2.2.2.2.2.2.2.2.2.2.2.1.length+(List.length [(T.s (.int .i64 x19))])) 549755813888))then
 (idx p16.2.2.2.2.2.1 p16.2.1).bind fun x20=>
 (bif((true&&(Nat.beq p16.2.2.2.2.2.2.2.2.2.2.2.2.2.2.2.2.2.1 p16.2.2.2.2.2.2.2.2.2.2.2.2.2.2.2.2.2.2.2.2.1.length))&&(Nat.ble (p16.2.2.2.2.2.2.2.2.2.2.2.2.2.2.2.2.2.2.2.2.1.length+(List.length [(T.s (.int .u64 x20))])) 549755813888))then
 some (.inl ((jo (bK x17.toNat)),(IntKind.wrap .i64 (p16.2.1+1)),p16.2.2.1,p16.2.2.2.1,p16.2.2.2.2.1,p16.2.2.2.2.2.1,p16.2.2.2.2.2.2.1,p16.2.2.2.2.2.2.2.1,p16.2.2.2.2.2.2.2.2.1,p16.2.2.2.2.2.2.2.2.2.1,p16.2.2.2.2.2.2.2.2.2.2.1,p16.2.2.2.2.2.2.2.2.2.2.2.1,p16.2.2.2.2.2.2.2.2.2.2.2.2.1,p16.2.2.2.2.2.2.2.2.2.2.2.2.2.1,p16.2.2.2.2.2.2.2.2.2.2.2.2.2.2.1,p16.2.2.2.2.2.2.2.2.2.2.2.2.2.2.2.1,(List.length (p16.2.2.2.2.2.2.2.2.2.2.2.2.2.2.2.2.2.2.2.1++[(T.s (.int .i64 x19))])),(List.length (p16.2.2.2.2.2.2.2.2.2.2.2.2.2.2.2.2.2.2.2.2.1++[(T.s (.int .u64 x20))])),p16.2.2.2.2.2.2.2.2.2.2.2.2.2.2.2.2.2.2.1,(p16.2.2.2.2.2.2.2.2.2.2.2.2.2.2.2.2.2.2.2.1++[(T.s (.int .i64 x19))]),(p16.2.2.2.2.2.2.2.2.2.2.2.2.2.2.2.2.2.2.2.2.1++[(T.s (.int .u64 x20))]),()))
 else none)
 else none)
 else
  some (.inl ((jo (bK x17.toNat)),(IntKind.wrap .i64 (p16.2.1+1)),p16.2.2.1,p16.2.2.2.1,p16.2.2.2.2.1,p16.2.2.2.2.2.1,p16.2.2.2.2.2.2.1,p16.2.2.2.2.2.2.2.1,p16.2.2.2.2.2.2.2.2.1,p16.2.2.2.2.2.2.2.2.2.1,p16.2.2.2.2.2.2.2.2.2.2.1,p16.2.2.2.2.2.2.2.2.2.2.2.1,p16.2.2.2.2.2.2.2.2.2.2.2.2.1,p16.2.2.2.2.2.2.2.2.2.2.2.2.2.1,p16.2.2.2.2.2.2.2.2.2.2.2.2.2.2.1,p16.2.2.2.2.2.2.2.2.2.2.2.2.2.2.2.1,p16.2.2.2.2.2.2.2.2.2.2.2.2.2.2.2.2.1,p16.2.2.2.2.2.2.2.2.2.2.2.2.2.2.2.2.2.1,p16.2.2.2.2.2.2.2.2.2.2.2.2.2.2.2.2.2.2.1,p16.2.2.2.2.2.2.2.2.2.2.2.2.2.2.2.2.2.2.2.1,p16.2.2.2.2.2.2.2.2.2.2.2.2.2.2.2.2.2.2.2.2.1,())))
 else
  (idx p16.2.2.2.2.2.1 p16.2.1).bind fun x21=>
  (bif(!(decide ((((qA (bK x21.toNat)):Nat):Int)=0)))then
  (idx p16.2.2.2.2.1 p16.2.1).bind fun x22=>
  (bif((true&&(Nat.beq p16.2.2.2.2.2.2.2.2.2.2.2.2.2.2.2.2.1 p16.2.2.2.2.2.2.2.2.2.2.2.2.2.2.2.2.2.2.2.1.length))&&(Nat.ble (p16.2.2.2.2.2.2.2.2.2.2.2.2.2.2.2.2.2.2.2.1.length+(List.length [(T.s (.int .i64 x22))])) 549755813888))then
  (idx p16.2.2.2.2.2.1 p16.2.1).bind fun x23=>
  (bif((true&&(Nat.beq p16.2.2.2.2.2.2.2.2.2.2.2.2.2.2.2.2.2.1 p16.2.2.2.2.2.2.2.2.2.2.2.2.2.2.2.2.2.2.2.2.1.length))&&(Nat.ble (p16.2.2.2.2.2.2.2.2.2.2.2.2.2.2.2.2.2.2.2.2.1.length+(List.length [(T.s (.int .u64 x23))])) 549755813888))then
  some (.inl (false,(IntKind.wrap .i64 (p16.2.1+1)),p16.2.2.1,p16.2.2.2.1,p16.2.2.2.2.1,p16.2.2.2.2.2.1,p16.2.2.2.2.2.2.1,p16.2.2.2.2.2.2.2.1,p16.2.2.2.2.2.2.2.2.1,p16.2.2.2.2.2.2.2.2.2.1,p16.2.2.2.2.2.2.2.2.2.2.1,p16.2.2.2.2.2.2.2.2.2.2.2.1,p16.2.2.2.2.2.2.2.2.2.2.2.2.1,p16.2.2.2.2.2.2.2.2.2.2.2.2.2.1,p16.2.2.2.2.2.2.2.2.2.2.2.2.2.2.1,p16.2.2.2.2.2.2.2.2.2.2.2.2.2.2.2.1,(List.length (p16.2.2.2.2.2.2.2.2.2.2.2.2.2.2.2.2.2.2.2.1++[(T.s (.int .i64 x22))])),(List.length (p16.2.2.2.2.2.2.2.2.2.2.2.2.2.2.2.2.2.2.2.2.1++[(T.s (.int .u64 x23))])),p16.2.2.2.2.2.2.2.2.2.2.2.2.2.2.2.2.2.2.1,(p16.2.2.2.2.2.2.2.2.2.2.2.2.2.2.2.2.2.2.2.1++[(T.s (.int .i64 x22))]),(p16.2.2.2.2.2.2.2.2.2.2.2.2.2.2.2.2.2.2.2.2.1++[(T.s (.int .u64 x23))]),()))
 else none)
 else none)
 else
  some (.inl (false,(IntKind.wrap .i64 (p16.2.1+1)),p16.2.2.1,p16.2.2.2.1,p16.2.2.2.2.1,p16.2.2.2.2.2.1,p16.2.2.2.2.2.2.1,p16.2.2.2.2.2.2.2.1,p16.2.2.2.2.2.2.2.2.1,p16.2.2.2.2.2.2.2.2.2.1,p16.2.2.2.2.2.2.2.2.2.2.1,p16.2.2.2.2.2.2.2.2.2.2.2.1,p16.2.2.2.2.2.2.2.2.2.2.2.2.1,p16.2.2.2.2.2.2.2.2.2.2.2.2.2.1,p16.2.2.2.2.2.2.2.2.2.2.2.2.2.2.1,p16.2.2.2.2.2.2.2.2.2.2.2.2.2.2.2.1,p16.2.2.2.2.2.2.2.2.2.2.2.2.2.2.2.2.1,p16.2.2.2.2.2.2.2.2.2.2.2.2.2.2.2.2.2.1,p16.2.2.2.2.2.2.2.2.2.2.2.2.2.2.2.2.2.2.1,p16.2.2.2.2.2.2.2.2.2.2.2.2.2.2.2.2.2.2.2.1,p16.2.2.2.2.2.2.2.2.2.2.2.2.2.2.2.2.2.2.2.2.1,()))))
 else
  some (.inr (p16.1,p16.2.1,p16.2.2.1,p16.2.2.2.1,p16.2.2.2.2.1,p16.2.2.2.2.2.1,p16.2.2.2.2.2.2.1,p16.2.2.2.2.2.2.2.1,p16.2.2.2.2.2.2.2.2.1,p16.2.2.2.2.2.2.2.2.2.1,p16.2.2.2.2.2.2.2.2.2.2.1,p16.2.2.2.2.2.2.2.2.2.2.2.1,p16.2.2.2.2.2.2.2.2.2.2.2.2.1,p16.2.2.2.2.2.2.2.2.2.2.2.2.2.1,p16.2.2.2.2.2.2.2.2.2.2.2.2.2.2.1,p16.2.2.2.2.2.2.2.2.2.2.2.2.2.2.2.1,p16.2.2.2.2.2.2.2.2.2.2.2.2.2.2.2.2.1,p16.2.2.2.2.2.2.2.2.2.2.2.2.2.2.2.2.2.1,p16.2.2.2.2.2.2.2.2.2.2.2.2.2.2.2.2.2.2.1,p16.2.2.2.2.2.2.2.2.2.2.2.2.2.2.2.2.2.2.2.1,p16.2.2.2.2.2.2.2.2.2.2.2.2.2.2.2.2.2.2.2.2.1,())))
def qn8  (fu:Nat)(a:(Bool×Int×(List Int)×(List Int)×Int)):Option (Bool×Int×(List Int)×(List Int)×Int) :=
 (bif(jo (bK a.2.1.toNat))then
 (itP fu (Yl) ((jo (bK a.2.2.2.2.toNat)),(0:Int),a.1,a.2.1,a.2.2.1,a.2.2.2.1,a.2.2.2.2,[],[],false,(0:Int),0,0,(0:Int),false,(nzI a.2.1),0,0,(nzI a.2.2.2.2),[],[],())).bind fun x8=>
 (bif x8.2.2.1 then
 some (true,(0:Int),[],[],(0:Int))
 else
  (bif(!x8.1)then
  some (true,(0:Int),[],[],(0:Int))
 else
  (Su.sub x8.2.2.2.2.2.2.2.2.2.2.2.2.2.2.2.2.2.2.2.1 0 x8.2.2.2.2.2.2.2.2.2.2.2.2.2.2.2.2.1).bind fun x9=>
  (Su.sub x8.2.2.2.2.2.2.2.2.2.2.2.2.2.2.2.2.2.2.2.2.1 0 x8.2.2.2.2.2.2.2.2.2.2.2.2.2.2.2.2.2.1).bind fun x10=>
  (((qI 3 x9).bind fun x11=>
  ((qI 2 x10).bind fun x12=>
  some (x12,x8.2.2.2.2.2.2.2.2.2.2.2.2.2.2.2.2.2.2.1)).bind fun x13=>
  some (x11,x13)).bind fun x14=>
  some (x8.2.2.2.2.2.2.2.2.2.2.2.2.2.2.2.1,x14)).bind fun x15=>
  some (x8.2.2.2.2.2.2.2.2.2.2.2.2.2.2.1,x15)))
 else
  (itP fu (qkG) (false,(0:Int),a.1,a.2.1,a.2.2.1,a.2.2.2.1,a.2.2.2.2,[],[],false,(0:Int),0,0,(0:Int),false,(nzI a.2.1),0,0,(nzI a.2.2.2.2),[],[],())).bind fun x24=>
  (bif x24.2.2.1 then
  some (true,(0:Int),[],[],(0:Int))
 else
  (bif(!x24.1)then
  some (true,(0:Int),[],[],(0:Int))
 else
  (Su.sub x24.2.2.2.2.2.2.2.2.2.2.2.2.2.2.2.2.2.2.2.1 0 x24.2.2.2.2.2.2.2.2.2.2.2.2.2.2.2.2.1).bind fun x25=>
  (Su.sub x24.2.2.2.2.2.2.2.2.2.2.2.2.2.2.2.2.2.2.2.2.1 0 x24.2.2.2.2.2.2.2.2.2.2.2.2.2.2.2.2.2.1).bind fun x26=>
  (((qI 3 x25).bind fun x27=>
  ((qI 2 x26).bind fun x28=>
  some (x28,x24.2.2.2.2.2.2.2.2.2.2.2.2.2.2.2.2.2.2.1)).bind fun x29=>
  some (x27,x29)).bind fun x30=>
  some (x24.2.2.2.2.2.2.2.2.2.2.2.2.2.2.2.1,x30)).bind fun x31=>
  some (x24.2.2.2.2.2.2.2.2.2.2.2.2.2.2.1,x31))))
def qfn:(Int×Int×Bool×Int×(List Int)×(List Int)×Int×Unit)→Option ((Int×Int×Bool×Int×(List Int)×(List Int)×Int×Unit) ⊕ (Lp (Int×Int×Bool×Int×(List Int)×(List Int)×Int×Unit) Int)):=fun p0=>(bif(decide (p0.2.1<(List.length p0.2.2.2.2.1:Int)))then
 (idx p0.2.2.2.2.1 p0.2.1).bind fun x1=>
 (bif(decide (x1=p0.1))then
 (idx p0.2.2.2.2.2.1 p0.2.1).bind fun x2=>
 some (.inr (.ret x2))
 else
  some (.inl (p0.1,(IntKind.wrap .i64 (p0.2.1+1)),p0.2.2.1,p0.2.2.2.1,p0.2.2.2.2.1,p0.2.2.2.2.2.1,p0.2.2.2.2.2.2.1,())))
 else
  some (.inr (.exit 0 (p0.1,p0.2.1,p0.2.2.1,p0.2.2.2.1,p0.2.2.2.2.1,p0.2.2.2.2.2.1,p0.2.2.2.2.2.2.1,()))))
def rAt  (fu:Nat)(a:(Bool×Int×(List Int)×(List Int)×Int))(id:Int):Option Int :=
 (itP fu (qfn) (id,(0:Int),a.1,a.2.1,a.2.2.1,a.2.2.2.1,a.2.2.2.2,())).bind fun x3=>
 (match x3 with
 | .exit i4 p5=>(bif(Nat.beq i4 0)then
  some 0
 else none)
 | .ret o6=>some o6)
def yU:Stp (Nat×Int×Int×Bool×Int×(List Int)×(List Int)×Int×Bool×Int×(List Int)×(List Int)×Int×(List T)×Unit):=fun p0=>(bif(decide (p0.2.1<(List.length p0.2.2.2.2.2.1:Int)))then
 (bif(decide ((List.length p0.2.2.2.2.2.2.2.2.2.2.1:Int)≤p0.2.2.1))then
 (idx p0.2.2.2.2.2.1 p0.2.1).bind fun x1=>
 (bif((true&&(Nat.beq p0.1 p0.2.2.2.2.2.2.2.2.2.2.2.2.2.1.length))&&(Nat.ble (p0.2.2.2.2.2.2.2.2.2.2.2.2.2.1.length+(List.length [(T.s (.int .i64 x1))])) 549755813888))then
 some (.inl ((List.length (p0.2.2.2.2.2.2.2.2.2.2.2.2.2.1++[(T.s (.int .i64 x1))])),(IntKind.wrap .i64 (p0.2.1+1)),p0.2.2.1,p0.2.2.2.1,p0.2.2.2.2.1,p0.2.2.2.2.2.1,p0.2.2.2.2.2.2.1,p0.2.2.2.2.2.2.2.1,p0.2.2.2.2.2.2.2.2.1,p0.2.2.2.2.2.2.2.2.2.1,p0.2.2.2.2.2.2.2.2.2.2.1,p0.2.2.2.2.2.2.2.2.2.2.2.1,p0.2.2.2.2.2.2.2.2.2.2.2.2.1,(p0.2.2.2.2.2.2.2.2.2.2.2.2.2.1++[(T.s (.int .i64 x1))]),()))
 else none)
 else
  (bif(decide (p0.2.1<(List.length p0.2.2.2.2.2.1:Int)))then
  (idx p0.2.2.2.2.2.1 p0.2.1).bind fun x2=>
  (idx p0.2.2.2.2.2.2.2.2.2.2.1 p0.2.2.1).bind fun x3=>
  (bif(decide (x2<x3))then
  (idx p0.2.2.2.2.2.1 p0.2.1).bind fun x4=>
  (bif((true&&(Nat.beq p0.1 p0.2.2.2.2.2.2.2.2.2.2.2.2.2.1.length))&&(Nat.ble (p0.2.2.2.2.2.2.2.2.2.2.2.2.2.1.length+(List.length [(T.s (.int .i64 x4))])) 549755813888))then
  some (.inl ((List.length (p0.2.2.2.2.2.2.2.2.2.2.2.2.2.1++[(T.s (.int .i64 x4))])),(IntKind.wrap .i64 (p0.2.1+1)),p0.2.2.1,p0.2.2.2.1,p0.2.2.2.2.1,p0.2.2.2.2.2.1,p0.2.2.2.2.2.2.1,p0.2.2.2.2.2.2.2.1,p0.2.2.2.2.2.2.2.2.1,p0.2.2.2.2.2.2.2.2.2.1,p0.2.2.2.2.2.2.2.2.2.2.1,p0.2.2.2.2.2.2.2.2.2.2.2.1,p0.2.2.2.2.2.2.2.2.2.2.2.2.1,(p0.2.2.2.2.2.2.2.2.2.2.2.2.2.1++[(T.s (.int .i64 x4))]),()))
 else none)
 else
  (bif(decide ((List.length p0.2.2.2.2.2.1:Int)≤p0.2.1))then
  (idx p0.2.2.2.2.2.2.2.2.2.2.1 p0.2.2.1).bind fun x5=>
  (bif((true&&(Nat.beq p0.1 p0.2.2.2.2.2.2.2.2.2.2.2.2.2.1.length))&&(Nat.ble (p0.2.2.2.2.2.2.2.2.2.2.2.2.2.1.length+(List.length [(T.s (.int .i64 x5))])) 549755813888))then
  some (.inl ((List.length (p0.2.2.2.2.2.2.2.2.2.2.2.2.2.1++[(T.s (.int .i64 x5))])),p0.2.1,(IntKind.wrap .i64 (p0.2.2.1+1)),p0.2.2.2.1,p0.2.2.2.2.1,p0.2.2.2.2.2.1,p0.2.2.2.2.2.2.1,p0.2.2.2.2.2.2.2.1,p0.2.2.2.2.2.2.2.2.1,p0.2.2.2.2.2.2.2.2.2.1,p0.2.2.2.2.2.2.2.2.2.2.1,p0.2.2.2.2.2.2.2.2.2.2.2.1,p0.2.2.2.2.2.2.2.2.2.2.2.2.1,(p0.2.2.2.2.2.2.2.2.2.2.2.2.2.1++[(T.s (.int .i64 x5))]),()))
 else none)
 else
  (idx p0.2.2.2.2.2.2.2.2.2.2.1 p0.2.2.1).bind fun x6=>
  (idx p0.2.2.2.2.2.1 p0.2.1).bind fun x7=>
  (bif(decide (x6<x7))then
  (idx p0.2.2.2.2.2.2.2.2.2.2.1 p0.2.2.1).bind fun x8=>
  (bif((true&&(Nat.beq p0.1 p0.2.2.2.2.2.2.2.2.2.2.2.2.2.1.length))&&(Nat.ble (p0.2.2.2.2.2.2.2.2.2.2.2.2.2.1.length+(List.length [(T.s (.int .i64 x8))])) 549755813888))then
  some (.inl ((List.length (p0.2.2.2.2.2.2.2.2.2.2.2.2.2.1++[(T.s (.int .i64 x8))])),p0.2.1,(IntKind.wrap .i64 (p0.2.2.1+1)),p0.2.2.2.1,p0.2.2.2.2.1,p0.2.2.2.2.2.1,p0.2.2.2.2.2.2.1,p0.2.2.2.2.2.2.2.1,p0.2.2.2.2.2.2.2.2.1,p0.2.2.2.2.2.2.2.2.2.1,p0.2.2.2.2.2.2.2.2.2.2.1,p0.2.2.2.2.2.2.2.2.2.2.2.1,p0.2.2.2.2.2.2.2.2.2.2.2.2.1,(p0.2.2.2.2.2.2.2.2.2.2.2.2.2.1++[(T.s (.int .i64 x8))]),()))
 else none)
 else
  (idx p0.2.2.2.2.2.1 p0.2.1).bind fun x9=>
  (bif((true&&(Nat.beq p0.1 p0.2.2.2.2.2.2.2.2.2.2.2.2.2.1.length))&&(Nat.ble (p0.2.2.2.2.2.2.2.2.2.2.2.2.2.1.length+(List.length [(T.s (.int .i64 x9))])) 549755813888))then
  some (.inl ((List.length (p0.2.2.2.2.2.2.2.2.2.2.2.2.2.1++[(T.s (.int .i64 x9))])),(IntKind.wrap .i64 (p0.2.1+1)),(IntKind.wrap .i64 (p0.2.2.1+1)),p0.2.2.2.1,p0.2.2.2.2.1,p0.2.2.2.2.2.1,p0.2.2.2.2.2.2.1,p0.2.2.2.2.2.2.2.1,p0.2.2.2.2.2.2.2.2.1,p0.2.2.2.2.2.2.2.2.2.1,p0.2.2.2.2.2.2.2.2.2.2.1,p0.2.2.2.2.2.2.2.2.2.2.2.1,p0.2.2.2.2.2.2.2.2.2.2.2.2.1,(p0.2.2.2.2.2.2.2.2.2.2.2.2.2.1++[(T.s (.int .i64 x9))]),()))
 else none))))
 else
  (bif(decide ((List.length p0.2.2.2.2.2.1:Int)≤p0.2.1))then
  (idx p0.2.2.2.2.2.2.2.2.2.2.1 p0.2.2.1).bind fun x10=>
  (bif((true&&(Nat.beq p0.1 p0.2.2.2.2.2.2.2.2.2.2.2.2.2.1.length))&&(Nat.ble (p0.2.2.2.2.2.2.2.2.2.2.2.2.2.1.length+(List.length [(T.s (.int .i64 x10))])) 549755813888))then
  some (.inl ((List.length (p0.2.2.2.2.2.2.2.2.2.2.2.2.2.1++[(T.s (.int .i64 x10))])),p0.2.1,(IntKind.wrap .i64 (p0.2.2.1+1)),p0.2.2.2.1,p0.2.2.2.2.1,p0.2.2.2.2.2.1,p0.2.2.2.2.2.2.1,p0.2.2.2.2.2.2.2.1,p0.2.2.2.2.2.2.2.2.1,p0.2.2.2.2.2.2.2.2.2.1,p0.2.2.2.2.2.2.2.2.2.2.1,p0.2.2.2.2.2.2.2.2.2.2.2.1,p0.2.2.2.2.2.2.2.2.2.2.2.2.1,(p0.2.2.2.2.2.2.2.2.2.2.2.2.2.1++[(T.s (.int .i64 x10))]),()))
 else none)
 else
  (idx p0.2.2.2.2.2.2.2.2.2.2.1 p0.2.2.1).bind fun x11=>
  (idx p0.2.2.2.2.2.1 p0.2.1).bind fun x12=>
  (bif(decide (x11<x12))then
  (idx p0.2.2.2.2.2.2.2.2.2.2.1 p0.2.2.1).bind fun x13=>
  (bif((true&&(Nat.beq p0.1 p0.2.2.2.2.2.2.2.2.2.2.2.2.2.1.length))&&(Nat.ble (p0.2.2.2.2.2.2.2.2.2.2.2.2.2.1.length+(List.length [(T.s (.int .i64 x13))])) 549755813888))then
  some (.inl ((List.length (p0.2.2.2.2.2.2.2.2.2.2.2.2.2.1++[(T.s (.int .i64 x13))])),p0.2.1,(IntKind.wrap .i64 (p0.2.2.1+1)),p0.2.2.2.1,p0.2.2.2.2.1,p0.2.2.2.2.2.1,p0.2.2.2.2.2.2.1,p0.2.2.2.2.2.2.2.1,p0.2.2.2.2.2.2.2.2.1,p0.2.2.2.2.2.2.2.2.2.1,p0.2.2.2.2.2.2.2.2.2.2.1,p0.2.2.2.2.2.2.2.2.2.2.2.1,p0.2.2.2.2.2.2.2.2.2.2.2.2.1,(p0.2.2.2.2.2.2.2.2.2.2.2.2.2.1++[(T.s (.int .i64 x13))]),()))
 else none)
 else
  (idx p0.2.2.2.2.2.1 p0.2.1).bind fun x14=>
  (bif((true&&(Nat.beq p0.1 p0.2.2.2.2.2.2.2.2.2.2.2.2.2.1.length))&&(Nat.ble (p0.2.2.2.2.2.2.2.2.2.2.2.2.2.1.length+(List.length [(T.s (.int .i64 x14))])) 549755813888))then
  some (.inl ((List.length (p0.2.2.2.2.2.2.2.2.2.2.2.2.2.1++[(T.s (.int .i64 x14))])),(IntKind.wrap .i64 (p0.2.1+1)),(IntKind.wrap .i64 (p0.2.2.1+1)),p0.2.2.2.1,p0.2.2.2.2.1,p0.2.2.2.2.2.1,p0.2.2.2.2.2.2.1,p0.2.2.2.2.2.2.2.1,p0.2.2.2.2.2.2.2.2.1,p0.2.2.2.2.2.2.2.2.2.1,p0.2.2.2.2.2.2.2.2.2.2.1,p0.2.2.2.2.2.2.2.2.2.2.2.1,p0.2.2.2.2.2.2.2.2.2.2.2.2.1,(p0.2.2.2.2.2.2.2.2.2.2.2.2.2.1++[(T.s (.int .i64 x14))]),()))
 else none)))))
 else
  (bif(decide (p0.2.2.1<(List.length p0.2.2.2.2.2.2.2.2.2.2.1:Int)))then
  (bif(decide ((List.length p0.2.2.2.2.2.2.2.2.2.2.1:Int)≤p0.2.2.1))then
  (idx p0.2.2.2.2.2.1 p0.2.1).bind fun x15=>
  (bif((true&&(Nat.beq p0.1 p0.2.2.2.2.2.2.2.2.2.2.2.2.2.1.length))&&(Nat.ble (p0.2.2.2.2.2.2.2.2.2.2.2.2.2.1.length+(List.length [(T.s (.int .i64 x15))])) 549755813888))then
  some (.inl ((List.length (p0.2.2.2.2.2.2.2.2.2.2.2.2.2.1++[(T.s (.int .i64 x15))])),(IntKind.wrap .i64 (p0.2.1+1)),p0.2.2.1,p0.2.2.2.1,p0.2.2.2.2.1,p0.2.2.2.2.2.1,p0.2.2.2.2.2.2.1,p0.2.2.2.2.2.2.2.1,p0.2.2.2.2.2.2.2.2.1,p0.2.2.2.2.2.2.2.2.2.1,p0.2.2.2.2.2.2.2.2.2.2.1,p0.2.2.2.2.2.2.2.2.2.2.2.1,p0.2.2.2.2.2.2.2.2.2.2.2.2.1,(p0.2.2.2.2.2.2.2.2.2.2.2.2.2.1++[(T.s (.int .i64 x15))]),()))
 else none)
 else
  (bif(decide (p0.2.1<(List.length p0.2.2.2.2.2.1:Int)))then
  (idx p0.2.2.2.2.2.1 p0.2.1).bind fun x16=>
  (idx p0.2.2.2.2.2.2.2.2.2.2.1 p0.2.2.1).bind fun x17=>
  (bif(decide (x16<x17))then
  (idx p0.2.2.2.2.2.1 p0.2.1).bind fun x18=>
  (bif((true&&(Nat.beq p0.1 p0.2.2.2.2.2.2.2.2.2.2.2.2.2.1.length))&&(Nat.ble (p0.2.2.2.2.2.2.2.2.2.2.2.2.2.1.length+(List.length [(T.s (.int .i64 x18))])) 549755813888))then
  some (.inl ((List.length (p0.2.2.2.2.2.2.2.2.2.2.2.2.2.1++[(T.s (.int .i64 x18))])),(IntKind.wrap .i64 (p0.2.1+1)),p0.2.2.1,p0.2.2.2.1,p0.2.2.2.2.1,p0.2.2.2.2.2.1,p0.2.2.2.2.2.2.1,p0.2.2.2.2.2.2.2.1,p0.2.2.2.2.2.2.2.2.1,p0.2.2.2.2.2.2.2.2.2.1,p0.2.2.2.2.2.2.2.2.2.2.1,p0.2.2.2.2.2.2.2.2.2.2.2.1,p0.2.2.2.2.2.2.2.2.2.2.2.2.1,(p0.2.2.2.2.2.2.2.2.2.2.2.2.2.1++[(T.s (.int .i64 x18))]),()))
 else none)
 else
  (bif(decide ((List.length p0.2.2.2.2.2.1:Int)≤p0.2.1))then
  (idx p0.2.2.2.2.2.2.2.2.2.2.1 p0.2.2.1).bind fun x19=>
  (bif((true&&(Nat.beq p0.1 p0.2.2.2.2.2.2.2.2.2.2.2.2.2.1.length))&&(Nat.ble (p0.2.2.2.2.2.2.2.2.2.2.2.2.2.1.length+(List.length [(T.s (.int .i64 x19))])) 549755813888))then
  some (.inl ((List.length (p0.2.2.2.2.2.2.2.2.2.2.2.2.2.1++[(T.s (.int .i64 x19))])),p0.2.1,(IntKind.wrap .i64 (p0.2.2.1+1)),p0.2.2.2.1,p0.2.2.2.2.1,p0.2.2.2.2.2.1,p0.2.2.2.2.2.2.1,p0.2.2.2.2.2.2.2.1,p0.2.2.2.2.2.2.2.2.1,p0.2.2.2.2.2.2.2.2.2.1,p0.2.2.2.2.2.2.2.2.2.2.1,p0.2.2.2.2.2.2.2.2.2.2.2.1,p0.2.2.2.2.2.2.2.2.2.2.2.2.1,(p0.2.2.2.2.2.2.2.2.2.2.2.2.2.1++[(T.s (.int .i64 x19))]),()))
 else none)
 else
  (idx p0.2.2.2.2.2.2.2.2.2.2.1 p0.2.2.1).bind fun x20=>
  (idx p0.2.2.2.2.2.1 p0.2.1).bind fun x21=>
  (bif(decide (x20<x21))then
  (idx p0.2.2.2.2.2.2.2.2.2.2.1 p0.2.2.1).bind fun x22=>
  (bif((true&&(Nat.beq p0.1 p0.2.2.2.2.2.2.2.2.2.2.2.2.2.1.length))&&(Nat.ble (p0.2.2.2.2.2.2.2.2.2.2.2.2.2.1.length+(List.length [(T.s (.int .i64 x22))])) 549755813888))then
  some (.inl ((List.length (p0.2.2.2.2.2.2.2.2.2.2.2.2.2.1++[(T.s (.int .i64 x22))])),p0.2.1,(IntKind.wrap .i64 (p0.2.2.1+1)),p0.2.2.2.1,p0.2.2.2.2.1,p0.2.2.2.2.2.1,p0.2.2.2.2.2.2.1,p0.2.2.2.2.2.2.2.1,p0.2.2.2.2.2.2.2.2.1,p0.2.2.2.2.2.2.2.2.2.1,p0.2.2.2.2.2.2.2.2.2.2.1,p0.2.2.2.2.2.2.2.2.2.2.2.1,p0.2.2.2.2.2.2.2.2.2.2.2.2.1,(p0.2.2.2.2.2.2.2.2.2.2.2.2.2.1++[(T.s (.int .i64 x22))]),()))
 else none)
 else
  (idx p0.2.2.2.2.2.1 p0.2.1).bind fun x23=>
  (bif((true&&(Nat.beq p0.1 p0.2.2.2.2.2.2.2.2.2.2.2.2.2.1.length))&&(Nat.ble (p0.2.2.2.2.2.2.2.2.2.2.2.2.2.1.length+(List.length [(T.s (.int .i64 x23))])) 549755813888))then
  some (.inl ((List.length (p0.2.2.2.2.2.2.2.2.2.2.2.2.2.1++[(T.s (.int .i64 x23))])),(IntKind.wrap .i64 (p0.2.1+1)),(IntKind.wrap .i64 (p0.2.2.1+1)),p0.2.2.2.1,p0.2.2.2.2.1,p0.2.2.2.2.2.1,p0.2.2.2.2.2.2.1,p0.2.2.2.2.2.2.2.1,p0.2.2.2.2.2.2.2.2.1,p0.2.2.2.2.2.2.2.2.2.1,p0.2.2.2.2.2.2.2.2.2.2.1,p0.2.2.2.2.2.2.2.2.2.2.2.1,p0.2.2.2.2.2.2.2.2.2.2.2.2.1,(p0.2.2.2.2.2.2.2.2.2.2.2.2.2.1++[(T.s (.int .i64 x23))]),()))
 else none))))
 else
  (bif(decide ((List.length p0.2.2.2.2.2.1:Int)≤p0.2.1))then
  (idx p0.2.2.2.2.2.2.2.2.2.2.1 p0.2.2.1).bind fun x24=>
  (bif((true&&(Nat.beq p0.1 p0.2.2.2.2.2.2.2.2.2.2.2.2.2.1.length))&&(Nat.ble (p0.2.2.2.2.2.2.2.2.2.2.2.2.2.1.length+(List.length [(T.s (.int .i64 x24))])) 549755813888))then
  some (.inl ((List.length (p0.2.2.2.2.2.2.2.2.2.2.2.2.2.1++[(T.s (.int .i64 x24))])),p0.2.1,(IntKind.wrap .i64 (p0.2.2.1+1)),p0.2.2.2.1,p0.2.2.2.2.1,p0.2.2.2.2.2.1,p0.2.2.2.2.2.2.1,p0.2.2.2.2.2.2.2.1,p0.2.2.2.2.2.2.2.2.1,p0.2.2.2.2.2.2.2.2.2.1,p0.2.2.2.2.2.2.2.2.2.2.1,p0.2.2.2.2.2.2.2.2.2.2.2.1,p0.2.2.2.2.2.2.2.2.2.2.2.2.1,(p0.2.2.2.2.2.2.2.2.2.2.2.2.2.1++[(T.s (.int .i64 x24))]),()))
 else none)
 else
  (idx p0.2.2.2.2.2.2.2.2.2.2.1 p0.2.2.1).bind fun x25=>
  (idx p0.2.2.2.2.2.1 p0.2.1).bind fun x26=>
  (bif(decide (x25<x26))then
  (idx p0.2.2.2.2.2.2.2.2.2.2.1 p0.2.2.1).bind fun x27=>
  (bif((true&&(Nat.beq p0.1 p0.2.2.2.2.2.2.2.2.2.2.2.2.2.1.length))&&(Nat.ble (p0.2.2.2.2.2.2.2.2.2.2.2.2.2.1.length+(List.length [(T.s (.int .i64 x27))])) 549755813888))then
  some (.inl ((List.length (p0.2.2.2.2.2.2.2.2.2.2.2.2.2.1++[(T.s (.int .i64 x27))])),p0.2.1,(IntKind.wrap .i64 (p0.2.2.1+1)),p0.2.2.2.1,p0.2.2.2.2.1,p0.2.2.2.2.2.1,p0.2.2.2.2.2.2.1,p0.2.2.2.2.2.2.2.1,p0.2.2.2.2.2.2.2.2.1,p0.2.2.2.2.2.2.2.2.2.1,p0.2.2.2.2.2.2.2.2.2.2.1,p0.2.2.2.2.2.2.2.2.2.2.2.1,p0.2.2.2.2.2.2.2.2.2.2.2.2.1,(p0.2.2.2.2.2.2.2.2.2.2.2.2.2.1++[(T.s (.int .i64 x27))]),()))
 else none)
 else
  (idx p0.2.2.2.2.2.1 p0.2.1).bind fun x28=>
  (bif((true&&(Nat.beq p0.1 p0.2.2.2.2.2.2.2.2.2.2.2.2.2.1.length))&&(Nat.ble (p0.2.2.2.2.2.2.2.2.2.2.2.2.2.1.length+(List.length [(T.s (.int .i64 x28))])) 549755813888))then
  some (.inl ((List.length (p0.2.2.2.2.2.2.2.2.2.2.2.2.2.1++[(T.s (.int .i64 x28))])),(IntKind.wrap .i64 (p0.2.1+1)),(IntKind.wrap .i64 (p0.2.2.1+1)),p0.2.2.2.1,p0.2.2.2.2.1,p0.2.2.2.2.2.1,p0.2.2.2.2.2.2.1,p0.2.2.2.2.2.2.2.1,p0.2.2.2.2.2.2.2.2.1,p0.2.2.2.2.2.2.2.2.2.1,p0.2.2.2.2.2.2.2.2.2.2.1,p0.2.2.2.2.2.2.2.2.2.2.2.1,p0.2.2.2.2.2.2.2.2.2.2.2.2.1,(p0.2.2.2.2.2.2.2.2.2.2.2.2.2.1++[(T.s (.int .i64 x28))]),()))
 else none)))))
 else
  some (.inr (p0.1,p0.2.1,p0.2.2.1,p0.2.2.2.1,p0.2.2.2.2.1,p0.2.2.2.2.2.1,p0.2.2.2.2.2.2.1,p0.2.2.2.2.2.2.2.1,p0.2.2.2.2.2.2.2.2.1,p0.2.2.2.2.2.2.2.2.2.1,p0.2.2.2.2.2.2.2.2.2.2.1,p0.2.2.2.2.2.2.2.2.2.2.2.1,p0.2.2.2.2.2.2.2.2.2.2.2.2.1,p0.2.2.2.2.2.2.2.2.2.2.2.2.2.1,()))))
def qCD  (fu:Nat)(a:(Bool×Int×(List Int)×(List Int)×Int))(b:(Bool×Int×(List Int)×(List Int)×Int)):Option (List Int) :=
 (itP fu (yU) (0,(0:Int),(0:Int),a.1,a.2.1,a.2.2.1,a.2.2.2.1,a.2.2.2.2,b.1,b.2.1,b.2.2.1,b.2.2.2.1,b.2.2.2.2,[],())).bind fun x29=>
 (Su.sub x29.2.2.2.2.2.2.2.2.2.2.2.2.2.1 0 x29.1).bind fun x30=>
 (qI 3 x30)
def qtC(p:Int×Int):Option Int:=some (slkA p.1 p.2)
theorem qyJ(p:Int×Int)(y:Int)(hg:(dc (cI .u64) (d1 (cI .u64))).good p)(h:qtC p=some y):rASl p.1 p.2=some y:=by
 have:=soi h;subst this
 show some (qJ (qJ p.1 p.2 1) (Y5 (qJ p.1 p.2 2)) 1)=_
 rw[qb5 (qe8 (qbP hg.1) (qbP hg.2) 2)];rfl
def qtD(p:Int×Int):Option Int:=some (slkM p.1 p.2)
theorem qyK(p:Int×Int)(y:Int)(hg:(dc (cI .u64) (d1 (cI .u64))).good p)(h:qtD p=some y):rMSl p.1 p.2=some y:=by
 have:=soi h;subst this
 show some (qJ (qcT p.1 p.2 1) (Y5 (qcT p.1 p.2 2)) 1)=_
 rw[qb5 (qmm (qbP hg.1) (qbP hg.2) 2)];rfl
def e3(i:Int):T:=T.s (.int .i64 i)
def e2(c:Int):T:=T.s (.int .u64 c)
theorem yD(l:List Int):qI 3 (l.map e3)=some l:=JA (u:=3) (by decide) l
theorem Qj(l:List Int):qI 2 (l.map e2)=some l:=JA (u:=2) (by decide) l
theorem jF(R:List T)(n:Nat)(h:n=R.length):sub R 0 n=some R:=by
 subst h;have:=qiv R [] R.length rfl
 rwa [zD]at this
abbrev Rf:=Bool×(Int×List Int×List Int×Int)
def toF(x:Rf):Fm:=(x.1,x.2.1,qfm x.2.2.1 x.2.2.2.1,x.2.2.2.2)
def ofF(a:Fm):Rf:=(a.1,a.2.1,a.2.2.1.map Tm.id,a.2.2.1.map Tm.c,a.2.2.2)
def eqL(x:Rf):Bool:=Nat.beq x.2.2.1.length x.2.2.2.1.length
theorem QM(a:Fm):toF (ofF a)=a:=by
 obtain⟨b,m,l,e⟩:=a;show(b,m,qfm (l.map Tm.id) (l.map Tm.c),e)=_
 rw[qn7]
theorem qEu{x:Rf}(h:eqL x=true):x=ofF (toF x):=by
 obtain⟨b,m,i,c,e⟩:=x;have h':i.length=c.length:=zk h
 show _=(b,m,(qfm i c).map Tm.id,(qfm i c).map Tm.c,e)
 rw[qtB h',qAc h']
theorem qiO(a:Fm):eqL (ofF a)=true:=by
 show Nat.beq (a.2.2.1.map Tm.id).length (a.2.2.1.map Tm.c).length=true
 rw[zn,zn];exact qH a.2.2.1.length
theorem onF{P:Rf→Prop}(h:∀a:Fm,P (ofF a)){x:Rf}(hx:eqL x=true):P x:=by rw[qEu hx];exact h _
theorem jA{α β:Type}(f:α→β)(A:List α)(t:α)(rest:List α):idx ((A++t::rest).map f) (A.length:Int)=some (f t):=by
 rw[jL,KM,zO (zE _),Vv];rfl
theorem qgZ(b:Bool)(m e:Int)(l:List Tm)(hl:l.length≤9223372036854775807):∀(rest A:List Tm) (last:Int),A++rest=l→-1≤last→(A=[]→last = -1)→(∀A' p,A=A'++[p]→last=Tm.id p) →
 ∃n y,itP n qae ((A.length:Int),b,m,l.map Tm.id,l.map Tm.c,e,())=some y ∧
  (y = .exit 0 ((l.length:Int),b,m,l.map Tm.id,l.map Tm.c,e,())∧ja last rest=true∨y = .ret false∧ja last rest=false)
 | [],A,last,hA,_,_,_=>by
  rw[zD]at hA;subst hA;refine⟨1,_,?_,.inl ⟨rfl,rfl⟩⟩
  rw[qu];simp only[qae,zn];rw[zh (by omega),zi];rfl
 | t::rest,A,last,hA,h0,h1,h2=>by
  have hNl:A.length+(rest.length+1)=l.length:=by rw[← hA];simp
  have hi:idx (l.map Tm.id) (A.length:Int)=some t.id:=by rw[← hA];exact jA Tm.id A t rest
  have hc:idx (l.map Tm.c) (A.length:Int)=some t.c:=by rw[← hA];exact jA Tm.c A t rest
  have hz:Nat.beq (bK (Int.toNat t.c)) 0=zI t.c:=rfl
  have hf:jo (bK (Int.toNat t.c))=fI t.c:=rfl
  have hlt:decide ((A.length:Int)<((l.map Tm.id).length:Nat))=true:=zd (by rw[zn];omega)
  have step:qae ((A.length:Int),b,m,l.map Tm.id,l.map Tm.c,e,()) =
   bif decide (t.id≤last)then some (.inr (.ret false))else bif !fI t.c then some (.inr (.ret false))else bif zI t.c then some (.inr (.ret false))else
    some (.inl (((A++[t]).length:Int),b,m,l.map Tm.id,l.map Tm.c,e,())):=by
   simp only[qae,hi,hc,hlt,zf,zj,Ya,hz,hf];have hw:IntKind.i64.wrap ((A.length:Int)+1)=(((A++[t]).length:Nat):Int):=by rw[w64 (by omega) (by omega)];simp
   rw[hw];by_cases hn:t.id<0
   · rw[zd hn,zf,zd (show t.id≤last by omega),zf]
   · rw[zh hn,zi]
     rcases List.eq_nil_or_concat A with hA0 | ⟨A',p,hA0⟩
     · have:=h1 hA0
       rw[zh (show¬t.id≤last by omega),zi];have h00:decide (0<(A.length:Int))=false:=by rw[hA0];rfl
       rw[h00,zi]
     · have hA1:A=A'++[p]:=by rw[hA0,List.concat_eq_append]
       have hlen:A.length=A'.length+1:=by rw[hA1];simp
       have:=h2 A' p hA1
       rw[zd (show 0<(A.length:Int) by omega),zf,w64 (by omega) (by omega),show(A.length:Int)-1=(A'.length:Int) by omega];have hp:idx (l.map Tm.id) (A'.length:Int)=some p.id:=by rw[← hA,hA1,zM];exact jA Tm.id A' p _
       rw[hp,zj,← this]
  by_cases g1:t.id≤last
  · refine⟨1,.ret false,?_,.inr ⟨rfl,by unfold ja;rw[zh (by omega)];rfl⟩⟩
    rw[qu,step,zd g1];rfl
  · cases g2:zI t.c with
    | true=>
     refine⟨1,.ret false,?_,.inr ⟨rfl,by unfold ja;rw[g2];simp⟩⟩
     rw[qu,step,zh g1,g2];cases fI t.c <;> rfl
    | false=>
     cases g3:fI t.c with
     | false=>
      refine⟨1,.ret false,?_,.inr ⟨rfl,by unfold ja;rw[g3];simp⟩⟩
      rw[qu,step,zh g1,g3];rfl
     | true=>
      obtain⟨n,y,q1,q2⟩:=qgZ b m e l hl rest (A++[t]) t.id (by rw[← hA];simp) (by omega) (by simp) (fun A' p hp=>by
       have:=List.append_inj_right' hp rfl
       simp only[VN,and_true]at this;rw[this])
      have er:ja last (t::rest)=ja t.id rest:=by
       show(decide (last<t.id)&&(!zI t.c&&(fI t.c&&ja t.id rest)))=_
       rw[zd (by omega),g2,g3];rfl
      refine⟨n+1,y,?_,by rw[er];exact q2⟩
      rw[qu,step,zh g1,g2,g3];exact q1
def qfo(x:Rf):Option Bool:=bif eqL x then some (yn (toF x))else none
theorem qyL(x:Rf)(y:Bool)(hg:(d1 cRf).good x)(h:qfo x=some y):∃n,qyI n x=some y:=by
 obtain⟨hx,h2⟩:=qj h;have:=soi h2;subst this
 revert hg;refine onF (P:=fun x=>(d1 cRf).good x→∃n,qyI n x=some (yn (toF x))) (fun a hg=>?_) hx
 rw[QM];obtain⟨b,m,l,e⟩:=a;have hll:(l.map Tm.id).length≤maxLen:=hg.2.2.1.2
 rw[zn]at hll;have we:inR .u64 e=true:=hg.2.2.2.2
 obtain⟨E,hE,hE2⟩:=qG we;have hf:∀f:Int,jo (bK f.toNat)=fI f:=fun _=>rfl
 have hfd:decide (Int.fdiv e (2^63)=1) = !decide (Int.fdiv e (2^63)=0):=by
  rw[hE,yQ];by_cases h:E<9223372036854775808
  · rw[show E / 2^63=0 by omega];rfl
  · rw[show E / 2^63=1 by omega];rfl
 rw[qbJ];unfold qyI ofF;simp only[hf,hfd];cases b with
 | true=>
  refine⟨0,?_⟩
  simp only[zf];have:decide ((((l.map Tm.id).length:Nat):Int)=0)=l.isEmpty:=by cases l <;> simp <;> omega
  rw[this];cases decide (m=0) <;> cases decide (e=0) <;> rfl
 | false=>
  obtain⟨n,z,q1,q2⟩:=qgZ false m e l (by rw[jc]at hll;omega) l [] (-1) rfl (by omega) (fun _=>rfl) (fun A' p h=>by simp at h)
  refine⟨n,?_⟩
  simp only[zi];have q1':itP n qae ((0:Int),false,m,l.map Tm.id,l.map Tm.c,e,())=some z:=q1
  rw[q1',zj];rcases q2 with⟨rfl,e1⟩ | ⟨rfl,e1⟩
  · simp only[e1]
    rw[show Nat.beq 0 0=true from rfl,zf];cases fI m <;> cases fI e <;> cases decide (m=9223372036854775808) <;> cases decide (Int.fdiv e (2^63)=0) <;> rfl
  · simp only[e1]
    cases fI m <;> cases fI e <;> cases decide (m=9223372036854775808) <;> cases decide (Int.fdiv e (2^63)=0) <;> rfl
theorem qpO(A:List Tm)(t:Tm):qt (A++[t])=bif zI t.c then qt A else qt A++[t]:=by
 unfold qt;rw[Vk];cases h:zI t.c <;> simp[h]
theorem qpP(ok b b0 b1:Bool)(m m0 e e0 m1 e1:Int)(l:List Tm)(r1 r2:List T)(n0 n1:Nat)(A:List Tm)(t:Tm)(rest:List Tm)(hA:A++t::rest=l)(hl:l.length≤549755813888) :
 Yl (ok,(A.length:Int),b,m,l.map Tm.id,l.map Tm.c,e,r1,r2,b0,m0,n0,n1,e0,b1,m1,(qt A).length,(qt A).length,e1,((qt A).map Tm.id).map e3,((qt A).map Tm.c).map e2,()) =
  some (.inl (ok&&fI t.c,((A++[t]).length:Int),b,m,l.map Tm.id,l.map Tm.c,e,r1,r2,b0,m0,n0,n1,e0,b1,m1,(qt (A++[t])).length,(qt (A++[t])).length,e1,((qt (A++[t])).map Tm.id).map e3,((qt (A++[t])).map Tm.c).map e2,())):=by
 have hNl:A.length+(rest.length+1)=l.length:=by rw[← hA];simp
 have hi:idx (l.map Tm.id) (A.length:Int)=some t.id:=by rw[← hA];exact jA Tm.id A t rest
 have hc:idx (l.map Tm.c) (A.length:Int)=some t.c:=by rw[← hA];exact jA Tm.c A t rest
 have hz:Nat.beq (bK (Int.toNat t.c)) 0=zI t.c:=rfl
 have hf:jo (bK (Int.toNat t.c))=fI t.c:=rfl
 have hlt:decide ((A.length:Int)<((l.length:Nat):Int))=true:=zd (by omega)
 have hw:IntKind.i64.wrap ((A.length:Int)+1)=(((A++[t]).length:Nat):Int):=by rw[w64 (by omega) (by omega)];simp
 have hdl:(qt A).length≤A.length:=List.length_filter_le _ _
 have hb:Nat.ble ((qt A).length+1) 549755813888=true:=zB (by omega)
 simp only[Yl,hi,hc,hlt,zf,zj,Ya,hz,hf,hw,zn,Kz,hb,qH,zW];have d1:((qt A).map Tm.id).map e3++[T.s (.int .i64 t.id)]=((qt A++[t]).map Tm.id).map e3:=by rw[zU,zU];rfl
 have d2:((qt A).map Tm.c).map e2++[T.s (.int .u64 t.c)]=((qt A++[t]).map Tm.c).map e2:=by rw[zU,zU];rfl
 rw[qpO,d1,d2];cases ok <;> cases hzt:zI t.c <;> simp only[zf,zi,Kf,zX,zK,Kh,zn]
theorem qc2(b b0 b1:Bool)(m m0 e e0 m1 e1:Int)(l:List Tm)(hl:l.length≤549755813888)(r1 r2:List T)(n0 n1:Nat):∀(rest A:List Tm) (ok:Bool),A++rest=l →
 ∃n,itP n Yl (ok,(A.length:Int),b,m,l.map Tm.id,l.map Tm.c,e,r1,r2,b0,m0,n0,n1,e0,b1,m1,(qt A).length,(qt A).length,e1,((qt A).map Tm.id).map e3,((qt A).map Tm.c).map e2,()) =
  some (ok&&rest.all fun t=>fI t.c,((l.length:Int),b,m,l.map Tm.id,l.map Tm.c,e,r1,r2,b0,m0,n0,n1,e0,b1,m1,(qt l).length,(qt l).length,e1,((qt l).map Tm.id).map e3,((qt l).map Tm.c).map e2,()))
 | [],A,ok,hA=>by
  rw[zD]at hA;subst hA;refine⟨1,?_⟩
  rw[qu];simp only[Yl,zn,List.all_nil,zL];rw[zh (by omega),zi];rfl
 | t::rest,A,ok,hA=>by
  obtain⟨n,q⟩:=qc2 b b0 b1 m m0 e e0 m1 e1 l hl r1 r2 n0 n1 rest (A++[t]) (ok&&fI t.c) (by rw[← hA];simp)
  refine⟨n+1,?_⟩
  rw[qu,qpP ok b b0 b1 m m0 e e0 m1 e1 l r1 r2 n0 n1 A t rest hA hl,VZ,← Bool.and_assoc];exact q
def qdy(a:Fm):Fm:=bif a.1 then qaS else yY a
def qaf(x:Rf):Option Rf:=bif eqL x&&Nat.ble x.2.2.1.length 549755813888 then some (ofF (qdy (toF x)))else none
theorem qEv(m:Int):fI (nzI m)=fI m:=by
 unfold nzI;cases h:zI m with
 | false=>rfl
 | true=>
  have:=qe7.1 h
  rw[zf,qBI];exact(ql9.2 (by omega)).symm
theorem qn9:∀l:List Tm,(!((qt l).any fun t=>!fI t.c))=l.all fun t=>fI t.c
 | []=>rfl
 | t::l=>by
  rw[VZ,← qn9 l];unfold qt;rw[KG];cases h:zI t.c with
  | true=>
   have:fI t.c=true:=ql9.2 (by have:=qe7.1 h;omega)
   rw[this];simp
  | false=>simp
theorem qtE(x y:Rf)(hg:(d1 cRf).good x)(h:qaf x=some y):∃n,qn8 n x=some y:=by
 obtain⟨h1,h2⟩:=qj h;have:=soi h2;subst this
 rw[zl]at h1;have hl:=zr h1.2;revert hl;refine onF (P:=fun x=>x.2.2.1.length≤549755813888→∃n,qn8 n x=some (ofF (qdy (toF x)))) (fun a hl=>?_) h1.1
 rw[QM];obtain⟨b,m,l,e⟩:=a;have hl:(l.map Tm.id).length≤549755813888:=hl
 rw[zn]at hl;have hf:∀f:Int,jo (bK f.toNat)=fI f:=fun _=>rfl
 have l21:qkG=Yl:=rfl
 have tail:∀ok:Bool,(fI m&&fI e)=ok∨ok=false∧fI m=false →
  (bif b then some ((true,(0:Int),([]:List Int),([]:List Int),(0:Int)):Rf)else bif !(ok&&l.all fun t=>fI t.c)then some (true,(0:Int),([]:List Int),([]:List Int),(0:Int))else
    (sub (((qt l).map Tm.id).map e3) 0 (qt l).length).bind fun x9=>(sub (((qt l).map Tm.c).map e2) 0 (qt l).length).bind fun x10=>(((qI 3 x9).bind fun x11=>(((qI 2 x10).bind fun x12=>some (x12,nzI e)).bind fun x13=>some (x11,x13))).bind fun x14=>some (nzI m,x14)).bind fun x15=>some (false,x15)) =
  some (ofF (qdy (b,m,l,e))):=fun ok hok=>by
  unfold qdy;rw[Qz];simp only[qEv];rw[qn9];cases b with
  | true=>rfl
  | false=>
   simp only[zi];have:(ok&&l.all fun t=>fI t.c)=((fI m&&fI e)&&l.all fun t=>fI t.c):=by
    rcases hok with hok | ⟨hok,hm⟩
    · rw[hok]
    · rw[hok,hm];rfl
   rw[this];cases(fI m&&fI e)&&l.all fun t=>fI t.c with
   | false=>rfl
   | true=>
    rw[Kf,zi,zf,jF _ _ (by simp),jF _ _ (by simp)];simp only[zj,yD,Qj];rfl
 unfold qn8 ofF;simp only[hf,l21];cases hm:fI m with
 | true=>
  obtain⟨n,q⟩:=qc2 b false false m 0 e 0 (nzI m) (nzI e) l hl [] [] 0 0 l [] (fI e) rfl
  refine⟨n,?_⟩
  rw[zf];refine obs q ?_
  simp only[];exact tail (fI e) (.inl (by rw[hm,zK]))
 | false=>
  obtain⟨n,q⟩:=qc2 b false false m 0 e 0 (nzI m) (nzI e) l hl [] [] 0 0 l [] false rfl
  refine⟨n,?_⟩
  rw[zi];refine obs q ?_
  simp only[];exact tail false (.inr ⟨rfl,hm⟩)
theorem qoa(id:Int)(b:Bool)(m e:Int)(l:List Tm)(hl:l.length≤9223372036854775807):∀(rest A:List Tm),A++rest=l →
 ∃n y,itP n qfn (id,(A.length:Int),b,m,l.map Tm.id,l.map Tm.c,e,())=some y ∧
  (y = .exit 0 (id,(l.length:Int),b,m,l.map Tm.id,l.map Tm.c,e,())∧atN rest id=0∨y = .ret (atN rest id))
 | [],A,hA=>by
  rw[zD]at hA;subst hA;refine⟨1,_,?_,.inl ⟨rfl,rfl⟩⟩
  rw[qu];simp only[qfn,zn];rw[zh (by omega),zi];rfl
 | t::rest,A,hA=>by
  have hNl:A.length+(rest.length+1)=l.length:=by rw[← hA];simp
  have hi:idx (l.map Tm.id) (A.length:Int)=some t.id:=by rw[← hA];exact jA Tm.id A t rest
  have hc:idx (l.map Tm.c) (A.length:Int)=some t.c:=by rw[← hA];exact jA Tm.c A t rest
  have hlt:decide ((A.length:Int)<((l.map Tm.id).length:Nat))=true:=zd (by rw[zn];omega)
  have hw:IntKind.i64.wrap ((A.length:Int)+1)=(((A++[t]).length:Nat):Int):=by rw[w64 (by omega) (by omega)];simp
  have step:qfn (id,(A.length:Int),b,m,l.map Tm.id,l.map Tm.c,e,())=bif decide (t.id=id)then some (.inr (.ret t.c))else some (.inl (id,((A++[t]).length:Int),b,m,l.map Tm.id,l.map Tm.c,e,())):=by
   simp only[qfn,hi,hc,hlt,zf,zj,hw]
  by_cases h:t.id=id
  · refine⟨1,.ret t.c,?_,.inr ?_⟩
    · rw[qu,step,zd h];rfl
    · unfold atN;rw[zd h,zf]
  · obtain⟨n,y,q1,q2⟩:=qoa id b m e l hl rest (A++[t]) (by rw[← hA];simp)
    refine⟨n+1,y,?_,by rw[Yk h];exact q2⟩
    rw[qu,step,zh h];exact q1
def qb6(p:Rf×Int):Option Int:=bif eqL p.1 then some (atN (toF p.1).2.2.1 p.2)else none
theorem qCE(p:Rf×Int)(y:Int)(hg:(dc cRf (d1 (cI .i64))).good p)(h:qb6 p=some y):∃n,rAt n p.1 p.2=some y:=by
 obtain⟨x,id⟩:=p;obtain⟨hx,h2⟩:=qj h;have:=soi h2;subst this
 have hl:x.2.2.1.length≤maxLen:=hg.1.2.2.1.2
 simp only[]at hl ⊢;revert hl;refine onF (P:=fun x=>x.2.2.1.length≤maxLen→∃n,rAt n x id=some (atN (toF x).2.2.1 id)) (fun a hl=>?_) hx
 rw[QM];obtain⟨b,m,l,e⟩:=a;have hl:(l.map Tm.id).length≤maxLen:=hl
 rw[zn,jc]at hl;obtain⟨n,y,q1,q2⟩:=qoa id b m e l (by omega) l [] rfl
 refine⟨n,?_⟩
 unfold rAt ofF;refine obs q1 ?_
 rcases q2 with⟨rfl,q⟩ | rfl
 · simp only[q];rfl
 · rfl
theorem qtF(c1 c2:Bool)(m1 m2 e1 e2:Int)(C1 C2 L1 L2:List Int)(h1:L1.length≤549755813888)(h2:L2.length≤549755813888):∀(n:Nat) (l m A B out:List Int),l.length+m.length≤n→out.length+n≤549755813888→L1=A++l→L2=B++m →
 ∃fu,itP fu yU (out.length,(A.length:Int),(B.length:Int),c1,m1,L1,C1,e1,c2,m2,L2,C2,e2,out.map e3,())=some ((out++YV n l m).length,(L1.length:Int),(L2.length:Int),c1,m1,L1,C1,e1,c2,m2,L2,C2,e2,(out++YV n l m).map e3,()):=by
 intro n;have endC:∀A B out:List Int,L1=A→L2=B→∃fu,itP fu yU (out.length,(A.length:Int),(B.length:Int),c1,m1,L1,C1,e1,c2,m2,L2,C2,e2,out.map e3,())=some (out.length,(L1.length:Int),(L2.length:Int),c1,m1,L1,C1,e1,c2,m2,L2,C2,e2,out.map e3,()):=by
  intro A B out hA hB;subst hA hB
  refine⟨1,?_⟩
  have t:∀k:Nat,decide ((k:Int)<(k:Int))=false:=fun k=>zh (by omega)
  rw[qu];simp only[yU,t,zi];rfl
 induction n with
 | zero=>
  intro l m A B out h ho hA hB;have z1:l=[]:=Kj.1 (by omega)
  have z2:m=[]:=Kj.1 (by omega)
  subst z1 z2
  rw[zD]at hA hB;simp only[YV,zD];exact endC A B out hA hB
 | succ n ih=>
  intro l m A B out h ho hA hB;have hb:Nat.ble (out.length+1) 549755813888=true:=zB (by omega)
  have go:∀(x:Int) (l' m' A' B':List Int),l'.length+m'.length≤n→L1=A'++l'→L2=B'++m'→YV (n+1) l m=x::YV n l' m' →
   yU (out.length,(A.length:Int),(B.length:Int),c1,m1,L1,C1,e1,c2,m2,L2,C2,e2,out.map e3,())=some (.inl ((out++[x]).length,(A'.length:Int),(B'.length:Int),c1,m1,L1,C1,e1,c2,m2,L2,C2,e2,(out++[x]).map e3,())) →
   ∃fu,itP fu yU (out.length,(A.length:Int),(B.length:Int),c1,m1,L1,C1,e1,c2,m2,L2,C2,e2,out.map e3,())=some ((out++YV (n+1) l m).length,(L1.length:Int),(L2.length:Int),c1,m1,L1,C1,e1,c2,m2,L2,C2,e2,(out++YV (n+1) l m).map e3,()):=by
   intro x l' m' A' B' hl' hA' hB' hi hs;obtain⟨fu,q⟩:=ih l' m' A' B' (out++[x]) hl' (by simp;omega) hA' hB'
   refine⟨fu+1,?_⟩
   rw[qu,hs,hi];simp only[zj];rw[q,zM,V9]
  have hm:∀x:Int,out.map e3++[T.s (.int .i64 x)]=(out++[x]).map e3:=fun x=>by rw[zU];rfl
  have hl3:∀x:Int,((out++[x]).map e3).length=(out++[x]).length:=fun x=>zn ..
  have hw1:∀x:Int,A.length<L1.length→IntKind.i64.wrap ((A.length:Int)+1)=(((A++[x]).length:Nat):Int):=fun x hx=>by rw[w64 (by omega) (by omega)];simp
  have hw2:∀x:Int,B.length<L2.length→IntKind.i64.wrap ((B.length:Int)+1)=(((B++[x]).length:Nat):Int):=fun x hx=>by rw[w64 (by omega) (by omega)];simp
  have ix:∀(K R:List Int) (x:Int),idx (K++x::R) (K.length:Int)=some x:=fun K R x=>by
   rw[jL,zO (zE _),Vv];rfl
  match l,m,h,hA,hB with
  | [],[],h,hA,hB=>
   rw[zD]at hA hB;simp only[YV,zD];exact endC A B out hA hB
  | x::l,[],h,hA,hB=>
   simp only[zw,zN]at h;rw[zD]at hB;have hlt:A.length<L1.length:=by rw[hA];simp
   have i1:idx L1 (A.length:Int)=some x:=by rw[hA];exact ix A l x
   refine go x l [] (A++[x]) B (by simp;omega) (by rw[hA];simp) (by rw[hB];simp) (by simp only[YV]) ?_
   have t1:decide ((A.length:Int)<(L1.length:Int))=true:=zd (by omega)
   have t2:decide ((L2.length:Int)≤(B.length:Int))=true:=zd (by rw[hB];omega)
   simp only[yU,t1,t2,i1,zf,zj,zn,qH,zL,Kz,hb,hm,hl3,hw1 x hlt]
  | [],y::m,h,hA,hB=>
   simp only[zw,zN]at h;rw[zD]at hA;have hlt:B.length<L2.length:=by rw[hB];simp
   have i1:idx L2 (B.length:Int)=some y:=by rw[hB];exact ix B m y
   refine go y [] m A (B++[y]) (by simp;omega) (by rw[hA];simp) (by rw[hB];simp) (by simp only[YV]) ?_
   have t1:decide ((A.length:Int)<(L1.length:Int))=false:=zh (by rw[hA];omega)
   have t2:decide ((L2.length:Int)≤(B.length:Int))=false:=zh (by omega)
   have t3:decide ((B.length:Int)<(L2.length:Int))=true:=zd (by omega)
   have t4:decide ((L1.length:Int)≤(A.length:Int))=true:=zd (by rw[hA];omega)
   simp only[yU,t1,t2,t3,t4,i1,zf,zi,zj,zn,qH,zL,Kz,hb,hm,hl3,hw2 y hlt]
  | x::l,y::m,h,hA,hB=>
   simp only[zw]at h;have l1:A.length<L1.length:=by rw[hA];simp
   have l2:B.length<L2.length:=by rw[hB];simp
   have i1:idx L1 (A.length:Int)=some x:=by rw[hA];exact ix A l x
   have i2:idx L2 (B.length:Int)=some y:=by rw[hB];exact ix B m y
   have t1:decide ((A.length:Int)<(L1.length:Int))=true:=zd (by omega)
   have t2:decide ((L2.length:Int)≤(B.length:Int))=false:=zh (by omega)
   have t4:decide ((L1.length:Int)≤(A.length:Int))=false:=zh (by omega)
   cases g1:decide (x<y)with
   | true=>
    refine go x l (y::m) (A++[x]) B (by simp;omega) (by rw[hA];simp) hB (by simp only[YV,g1,zf]) ?_
    simp only[yU,t1,t2,t4,i1,i2,g1,zf,zi,zj,zn,qH,zL,Kz,hb,hm,hl3,hw1 x l1]
   | false=>
    cases g2:decide (y<x)with
    | true=>
     refine go y (x::l) m A (B++[y]) (by simp;omega) hA (by rw[hB];simp) (by simp only[YV,g1,g2,zf,zi]) ?_
     simp only[yU,t1,t2,t4,i1,i2,g1,g2,zf,zi,zj,zn,qH,zL,Kz,hb,hm,hl3,hw2 y l2]
    | false=>
     refine go x l m (A++[x]) (B++[y]) (by omega) (by rw[hA];simp) (by rw[hB];simp) (by simp only[YV,g1,g2,zi]) ?_
     simp only[yU,t1,t2,t4,i1,i2,g1,g2,zf,zi,zj,zn,qH,zL,Kz,hb,hm,hl3,hw1 x l1,hw2 y l2]
def qtG(p:Rf×Rf):Option (List Int):=bif Nat.ble (p.1.2.2.1.length+p.2.2.2.1.length) 549755813888 then some (YV (p.1.2.2.1.length+p.2.2.2.1.length) p.1.2.2.1 p.2.2.2.1)else none
theorem qyM(p:Rf×Rf)(y:List Int)(hg:(dc cRf (d1 cRf)).good p)(h:qtG p=some y):∃n,qCD n p.1 p.2=some y:=by
 obtain⟨⟨b1,m1,i1,c1,e1⟩,b2,m2,i2,c2,e2⟩:=p;obtain⟨h1,h2⟩:=qj h;have:=soi h2;subst this
 have hl:i1.length+i2.length≤549755813888:=zr h1
 obtain⟨n,q⟩:=qtF b1 b2 m1 m2 e1 e2 c1 c2 i1 i2 (by omega) (by omega) (i1.length+i2.length) i1 i2 [] [] [] (zE _) (by simpa using hl) rfl rfl
 refine⟨n,?_⟩
 unfold qCD;refine obs q ?_
 simp only[Ka];exact obs (jF _ _ (by simp)) (yD _)
end
end Su
