/-
  What functions of the program compute, in plain Lean, and that the evaluator finds it.
-/
import Derived.Test.YtnegfdebjikfiaaGreatSuXl
import Derived.Test.YtnegfdebjikfiaaGreatNC25
import Derived.Test.YtnegfdebjikfiaaGreatNC19
set_option linter.unusedVariables false
set_option linter.unusedSimpArgs false
set_option maxRecDepth 10000
section
namespace Su
open Go Fly
noncomputable section
def yx:Stp ((List Tm)×(List Tm)×Nat×Int×(List T)×Unit):=fun p0=>(bif(decide (0<(List.length p0.1:Int)))then
 (bif(decide ((List.length p0.2.1:Int)=0))then
 (idx p0.1 0).bind fun x1=>
 (idx p0.1 0).bind fun x2=>
 (bif(true&&((true&&(decide (1≤(List.length p0.1:Int))))&&(decide ((List.length p0.1:Int)≤(List.length p0.1:Int)))))then
 (bif(!(decide ((Tm.c x2)=0)))then
 (bif((true&&(Nat.beq p0.2.2.1 p0.2.2.2.2.1.length))&&(Nat.ble (p0.2.2.2.2.1.length+(List.length [(T.agg [(T.s (.int .i64 (Tm.id x1))),(T.s (.int .u64 0))])])) 549755813888))then
 some (.inl ((List.take (Int.toNat ((List.length p0.1:Int)-1)) (List.drop 1 p0.1)),p0.2.1,(List.length (p0.2.2.2.2.1++[(T.agg [(T.s (.int .i64 (Tm.id x1))),(T.s (.int .u64 0))])])),(((upS 0 [p0.2.2.2.1,(((qaq (Int.toNat (((Qe (Int.toNat (Tm.c x2)) (Int.toNat ((9223372036854775808:Nat):Int)) 1):Nat):Int)) (Int.toNat (((Qe (Int.toNat 0) (Int.toNat (((yG (Int.toNat (Tm.c x2))):Nat):Int)) 1):Nat):Int))):Nat):Int)]):Nat):Int),(p0.2.2.2.2.1++[(T.agg [(T.s (.int .i64 (Tm.id x1))),(T.s (.int .u64 0))])]),()))
 else none)
 else
  (bif((true&&(Nat.beq p0.2.2.1 p0.2.2.2.2.1.length))&&(Nat.ble (p0.2.2.2.2.1.length+(List.length [(T.agg [(T.s (.int .i64 (Tm.id x1))),(T.s (.int .u64 0))])])) 549755813888))then
  some (.inl ((List.take (Int.toNat ((List.length p0.1:Int)-1)) (List.drop 1 p0.1)),p0.2.1,(List.length (p0.2.2.2.2.1++[(T.agg [(T.s (.int .i64 (Tm.id x1))),(T.s (.int .u64 0))])])),p0.2.2.2.1,(p0.2.2.2.2.1++[(T.agg [(T.s (.int .i64 (Tm.id x1))),(T.s (.int .u64 0))])]),()))
 else none))
 else none)
 else
  (bif(decide (0<(List.length p0.1:Int)))then
  (idx p0.1 0).bind fun x3=>
  (idx p0.2.1 0).bind fun x4=>
  (bif(decide ((Tm.id x3)<(Tm.id x4)))then
  (idx p0.1 0).bind fun x5=>
  (idx p0.1 0).bind fun x6=>
  (bif(true&&((true&&(decide (1≤(List.length p0.1:Int))))&&(decide ((List.length p0.1:Int)≤(List.length p0.1:Int)))))then
  (bif(!(decide ((Tm.c x6)=0)))then
  (bif((true&&(Nat.beq p0.2.2.1 p0.2.2.2.2.1.length))&&(Nat.ble (p0.2.2.2.2.1.length+(List.length [(T.agg [(T.s (.int .i64 (Tm.id x5))),(T.s (.int .u64 0))])])) 549755813888))then
  some (.inl ((List.take (Int.toNat ((List.length p0.1:Int)-1)) (List.drop 1 p0.1)),p0.2.1,(List.length (p0.2.2.2.2.1++[(T.agg [(T.s (.int .i64 (Tm.id x5))),(T.s (.int .u64 0))])])),(((upS 0 [p0.2.2.2.1,(((qaq (Int.toNat (((Qe (Int.toNat (Tm.c x6)) (Int.toNat ((9223372036854775808:Nat):Int)) 1):Nat):Int)) (Int.toNat (((Qe (Int.toNat 0) (Int.toNat (((yG (Int.toNat (Tm.c x6))):Nat):Int)) 1):Nat):Int))):Nat):Int)]):Nat):Int),(p0.2.2.2.2.1++[(T.agg [(T.s (.int .i64 (Tm.id x5))),(T.s (.int .u64 0))])]),()))
 else none)
 else
  (bif((true&&(Nat.beq p0.2.2.1 p0.2.2.2.2.1.length))&&(Nat.ble (p0.2.2.2.2.1.length+(List.length [(T.agg [(T.s (.int .i64 (Tm.id x5))),(T.s (.int .u64 0))])])) 549755813888))then
  some (.inl ((List.take (Int.toNat ((List.length p0.1:Int)-1)) (List.drop 1 p0.1)),p0.2.1,(List.length (p0.2.2.2.2.1++[(T.agg [(T.s (.int .i64 (Tm.id x5))),(T.s (.int .u64 0))])])),p0.2.2.2.1,(p0.2.2.2.2.1++[(T.agg [(T.s (.int .i64 (Tm.id x5))),(T.s (.int .u64 0))])]),()))
 else none))
 else none)
 else
  (bif(decide ((List.length p0.1:Int)=0))then
  (idx p0.2.1 0).bind fun x7=>
  (idx p0.2.1 0).bind fun x8=>
  (bif(true&&((true&&(decide (1≤(List.length p0.2.1:Int))))&&(decide ((List.length p0.2.1:Int)≤(List.length p0.2.1:Int)))))then
  (bif((true&&(Nat.beq p0.2.2.1 p0.2.2.2.2.1.length))&&(Nat.ble (p0.2.2.2.2.1.length+(List.length [(T.agg [(T.s (.int .i64 (Tm.id x7))),(T.s (.int .u64 0))])])) 549755813888))then
  some (.inl (p0.1,(List.take (Int.toNat ((List.length p0.2.1:Int)-1)) (List.drop 1 p0.2.1)),(List.length (p0.2.2.2.2.1++[(T.agg [(T.s (.int .i64 (Tm.id x7))),(T.s (.int .u64 0))])])),p0.2.2.2.1,(p0.2.2.2.2.1++[(T.agg [(T.s (.int .i64 (Tm.id x7))),(T.s (.int .u64 0))])]),()))
 else none)
 else none)
 else
  (idx p0.2.1 0).bind fun x9=>
  (idx p0.1 0).bind fun x10=>
  (bif(decide ((Tm.id x9)<(Tm.id x10)))then
  (idx p0.2.1 0).bind fun x11=>
  (idx p0.2.1 0).bind fun x12=>
  (bif(true&&((true&&(decide (1≤(List.length p0.2.1:Int))))&&(decide ((List.length p0.2.1:Int)≤(List.length p0.2.1:Int)))))then
  (bif((true&&(Nat.beq p0.2.2.1 p0.2.2.2.2.1.length))&&(Nat.ble (p0.2.2.2.2.1.length+(List.length [(T.agg [(T.s (.int .i64 (Tm.id x11))),(T.s (.int .u64 0))])])) 549755813888))then
  some (.inl (p0.1,(List.take (Int.toNat ((List.length p0.2.1:Int)-1)) (List.drop 1 p0.2.1)),(List.length (p0.2.2.2.2.1++[(T.agg [(T.s (.int .i64 (Tm.id x11))),(T.s (.int .u64 0))])])),p0.2.2.2.1,(p0.2.2.2.2.1++[(T.agg [(T.s (.int .i64 (Tm.id x11))),(T.s (.int .u64 0))])]),()))
 else none)
 else none)
 else
  (idx p0.1 0).bind fun x13=>
  (idx p0.1 0).bind fun x14=>
  (idx p0.2.1 0).bind fun x15=>
  (bif(true&&((true&&(decide (1≤(List.length p0.1:Int))))&&(decide ((List.length p0.1:Int)≤(List.length p0.1:Int)))))then
  (bif(true&&((true&&(decide (1≤(List.length p0.2.1:Int))))&&(decide ((List.length p0.2.1:Int)≤(List.length p0.2.1:Int)))))then
  (bif(!(decide ((Tm.c x14)=0)))then
  (bif((true&&(Nat.beq p0.2.2.1 p0.2.2.2.2.1.length))&&(Nat.ble (p0.2.2.2.2.1.length+(List.length [(T.agg [(T.s (.int .i64 (Tm.id x13))),(T.s (.int .u64 0))])])) 549755813888))then
  some (.inl ((List.take (Int.toNat ((List.length p0.1:Int)-1)) (List.drop 1 p0.1)),(List.take (Int.toNat ((List.length p0.2.1:Int)-1)) (List.drop 1 p0.2.1)),(List.length (p0.2.2.2.2.1++[(T.agg [(T.s (.int .i64 (Tm.id x13))),(T.s (.int .u64 0))])])),(((upS 0 [p0.2.2.2.1,(((qaq (Int.toNat (((Qe (Int.toNat (Tm.c x14)) (Int.toNat (((yG (Int.toNat (Tm.c x15))):Nat):Int)) 1):Nat):Int)) (Int.toNat (((Qe (Int.toNat (Tm.c x15)) (Int.toNat (((yG (Int.toNat (Tm.c x14))):Nat):Int)) 1):Nat):Int))):Nat):Int)]):Nat):Int),(p0.2.2.2.2.1++[(T.agg [(T.s (.int .i64 (Tm.id x13))),(T.s (.int .u64 0))])]),()))
 else none)
 else
  (bif((true&&(Nat.beq p0.2.2.1 p0.2.2.2.2.1.length))&&(Nat.ble (p0.2.2.2.2.1.length+(List.length [(T.agg [(T.s (.int .i64 (Tm.id x13))),(T.s (.int .u64 0))])])) 549755813888))then
  some (.inl ((List.take (Int.toNat ((List.length p0.1:Int)-1)) (List.drop 1 p0.1)),(List.take (Int.toNat ((List.length p0.2.1:Int)-1)) (List.drop 1 p0.2.1)),(List.length (p0.2.2.2.2.1++[(T.agg [(T.s (.int .i64 (Tm.id x13))),(T.s (.int .u64 0))])])),p0.2.2.2.1,(p0.2.2.2.2.1++[(T.agg [(T.s (.int .i64 (Tm.id x13))),(T.s (.int .u64 0))])]),()))
 else none))
 else none)
 else none))))
 else
  (bif(decide ((List.length p0.1:Int)=0))then
  (idx p0.2.1 0).bind fun x16=>
  (idx p0.2.1 0).bind fun x17=>
  (bif(true&&((true&&(decide (1≤(List.length p0.2.1:Int))))&&(decide ((List.length p0.2.1:Int)≤(List.length p0.2.1:Int)))))then
  (bif((true&&(Nat.beq p0.2.2.1 p0.2.2.2.2.1.length))&&(Nat.ble (p0.2.2.2.2.1.length+(List.length [(T.agg [(T.s (.int .i64 (Tm.id x16))),(T.s (.int .u64 0))])])) 549755813888))then
  some (.inl (p0.1,(List.take (Int.toNat ((List.length p0.2.1:Int)-1)) (List.drop 1 p0.2.1)),(List.length (p0.2.2.2.2.1++[(T.agg [(T.s (.int .i64 (Tm.id x16))),(T.s (.int .u64 0))])])),p0.2.2.2.1,(p0.2.2.2.2.1++[(T.agg [(T.s (.int .i64 (Tm.id x16))),(T.s (.int .u64 0))])]),()))
 else none)
 else none)
 else
  (idx p0.2.1 0).bind fun x18=>
  (idx p0.1 0).bind fun x19=>
  (bif(decide ((Tm.id x18)<(Tm.id x19)))then
  (idx p0.2.1 0).bind fun x20=>
  (idx p0.2.1 0).bind fun x21=>
  (bif(true&&((true&&(decide (1≤(List.length p0.2.1:Int))))&&(decide ((List.length p0.2.1:Int)≤(List.length p0.2.1:Int)))))then
  (bif((true&&(Nat.beq p0.2.2.1 p0.2.2.2.2.1.length))&&(Nat.ble (p0.2.2.2.2.1.length+(List.length [(T.agg [(T.s (.int .i64 (Tm.id x20))),(T.s (.int .u64 0))])])) 549755813888))then
  some (.inl (p0.1,(List.take (Int.toNat ((List.length p0.2.1:Int)-1)) (List.drop 1 p0.2.1)),(List.length (p0.2.2.2.2.1++[(T.agg [(T.s (.int .i64 (Tm.id x20))),(T.s (.int .u64 0))])])),p0.2.2.2.1,(p0.2.2.2.2.1++[(T.agg [(T.s (.int .i64 (Tm.id x20))),(T.s (.int .u64 0))])]),()))
 else none)
 else none)
 else
  (idx p0.1 0).bind fun x22=>
  (idx p0.1 0).bind fun x23=>
  (idx p0.2.1 0).bind fun x24=>
  (bif(true&&((true&&(decide (1≤(List.length p0.1:Int))))&&(decide ((List.length p0.1:Int)≤(List.length p0.1:Int)))))then
  (bif(true&&((true&&(decide (1≤(List.length p0.2.1:Int))))&&(decide ((List.length p0.2.1:Int)≤(List.length p0.2.1:Int)))))then
  (bif(!(decide ((Tm.c x23)=0)))then
  (bif((true&&(Nat.beq p0.2.2.1 p0.2.2.2.2.1.length))&&(Nat.ble (p0.2.2.2.2.1.length+(List.length [(T.agg [(T.s (.int .i64 (Tm.id x22))),(T.s (.int .u64 0))])])) 549755813888))then
  some (.inl ((List.take (Int.toNat ((List.length p0.1:Int)-1)) (List.drop 1 p0.1)),(List.take (Int.toNat ((List.length p0.2.1:Int)-1)) (List.drop 1 p0.2.1)),(List.length (p0.2.2.2.2.1++[(T.agg [(T.s (.int .i64 (Tm.id x22))),(T.s (.int .u64 0))])])),(((upS 0 [p0.2.2.2.1,(((qaq (Int.toNat (((Qe (Int.toNat (Tm.c x23)) (Int.toNat (((yG (Int.toNat (Tm.c x24))):Nat):Int)) 1):Nat):Int)) (Int.toNat (((Qe (Int.toNat (Tm.c x24)) (Int.toNat (((yG (Int.toNat (Tm.c x23))):Nat):Int)) 1):Nat):Int))):Nat):Int)]):Nat):Int),(p0.2.2.2.2.1++[(T.agg [(T.s (.int .i64 (Tm.id x22))),(T.s (.int .u64 0))])]),()))
 else none)
 else
  (bif((true&&(Nat.beq p0.2.2.1 p0.2.2.2.2.1.length))&&(Nat.ble (p0.2.2.2.2.1.length+(List.length [(T.agg [(T.s (.int .i64 (Tm.id x22))),(T.s (.int .u64 0))])])) 549755813888))then
  some (.inl ((List.take (Int.toNat ((List.length p0.1:Int)-1)) (List.drop 1 p0.1)),(List.take (Int.toNat ((List.length p0.2.1:Int)-1)) (List.drop 1 p0.2.1)),(List.length (p0.2.2.2.2.1++[(T.agg [(T.s (.int .i64 (Tm.id x22))),(T.s (.int .u64 0))])])),p0.2.2.2.1,(p0.2.2.2.2.1++[(T.agg [(T.s (.int .i64 (Tm.id x22))),(T.s (.int .u64 0))])]),()))
 else none))
 else none)
 else none)))))
 else
  (bif(decide (0<(List.length p0.2.1:Int)))then
  (bif(decide ((List.length p0.2.1:Int)=0))then
  (idx p0.1 0).bind fun x25=>
  (idx p0.1 0).bind fun x26=>
  (bif(true&&((true&&(decide (1≤(List.length p0.1:Int))))&&(decide ((List.length p0.1:Int)≤(List.length p0.1:Int)))))then
  (bif(!(decide ((Tm.c x26)=0)))then
  (bif((true&&(Nat.beq p0.2.2.1 p0.2.2.2.2.1.length))&&(Nat.ble (p0.2.2.2.2.1.length+(List.length [(T.agg [(T.s (.int .i64 (Tm.id x25))),(T.s (.int .u64 0))])])) 549755813888))then
  some (.inl ((List.take (Int.toNat ((List.length p0.1:Int)-1)) (List.drop 1 p0.1)),p0.2.1,(List.length (p0.2.2.2.2.1++[(T.agg [(T.s (.int .i64 (Tm.id x25))),(T.s (.int .u64 0))])])),(((upS 0 [p0.2.2.2.1,(((qaq (Int.toNat (((Qe (Int.toNat (Tm.c x26)) (Int.toNat ((9223372036854775808:Nat):Int)) 1):Nat):Int)) (Int.toNat (((Qe (Int.toNat 0) (Int.toNat (((yG (Int.toNat (Tm.c x26))):Nat):Int)) 1):Nat):Int))):Nat):Int)]):Nat):Int),(p0.2.2.2.2.1++[(T.agg [(T.s (.int .i64 (Tm.id x25))),(T.s (.int .u64 0))])]),()))
 else none)
 else
  (bif((true&&(Nat.beq p0.2.2.1 p0.2.2.2.2.1.length))&&(Nat.ble (p0.2.2.2.2.1.length+(List.length [(T.agg [(T.s (.int .i64 (Tm.id x25))),(T.s (.int .u64 0))])])) 549755813888))then
  some (.inl ((List.take (Int.toNat ((List.length p0.1:Int)-1)) (List.drop 1 p0.1)),p0.2.1,(List.length (p0.2.2.2.2.1++[(T.agg [(T.s (.int .i64 (Tm.id x25))),(T.s (.int .u64 0))])])),p0.2.2.2.1,(p0.2.2.2.2.1++[(T.agg [(T.s (.int .i64 (Tm.id x25))),(T.s (.int .u64 0))])]),()))
 else none))
 else none)
 else
  (bif(decide (0<(List.length p0.1:Int)))then
  (idx p0.1 0).bind fun x27=>
  (idx p0.2.1 0).bind fun x28=>
  (bif(decide ((Tm.id x27)<(Tm.id x28)))then
  (idx p0.1 0).bind fun x29=>
  (idx p0.1 0).bind fun x30=>
  (bif(true&&((true&&(decide (1≤(List.length p0.1:Int))))&&(decide ((List.length p0.1:Int)≤(List.length p0.1:Int)))))then
  (bif(!(decide ((Tm.c x30)=0)))then
  (bif((true&&(Nat.beq p0.2.2.1 p0.2.2.2.2.1.length))&&(Nat.ble (p0.2.2.2.2.1.length+(List.length [(T.agg [(T.s (.int .i64 (Tm.id x29))),(T.s (.int .u64 0))])])) 549755813888))then
  some (.inl ((List.take (Int.toNat ((List.length p0.1:Int)-1)) (List.drop 1 p0.1)),p0.2.1,(List.length (p0.2.2.2.2.1++[(T.agg [(T.s (.int .i64 (Tm.id x29))),(T.s (.int .u64 0))])])),(((upS 0 [p0.2.2.2.1,(((qaq (Int.toNat (((Qe (Int.toNat (Tm.c x30)) (Int.toNat ((9223372036854775808:Nat):Int)) 1):Nat):Int)) (Int.toNat (((Qe (Int.toNat 0) (Int.toNat (((yG (Int.toNat (Tm.c x30))):Nat):Int)) 1):Nat):Int))):Nat):Int)]):Nat):Int),(p0.2.2.2.2.1++[(T.agg [(T.s (.int .i64 (Tm.id x29))),(T.s (.int .u64 0))])]),()))
 else none)
 else
  (bif((true&&(Nat.beq p0.2.2.1 p0.2.2.2.2.1.length))&&(Nat.ble (p0.2.2.2.2.1.length+(List.length [(T.agg [(T.s (.int .i64 (Tm.id x29))),(T.s (.int .u64 0))])])) 549755813888))then
  some (.inl ((List.take (Int.toNat ((List.length p0.1:Int)-1)) (List.drop 1 p0.1)),p0.2.1,(List.length (p0.2.2.2.2.1++[(T.agg [(T.s (.int .i64 (Tm.id x29))),(T.s (.int .u64 0))])])),p0.2.2.2.1,(p0.2.2.2.2.1++[(T.agg [(T.s (.int .i64 (Tm.id x29))),(T.s (.int .u64 0))])]),()))
 else none))
 else none)
 else
  (bif(decide ((List.length p0.1:Int)=0))then
  (idx p0.2.1 0).bind fun x31=>
  (idx p0.2.1 0).bind fun x32=>
  (bif(true&&((true&&(decide (1≤(List.length p0.2.1:Int))))&&(decide ((List.length p0.2.1:Int)≤(List.length p0.2.1:Int)))))then
  (bif((true&&(Nat.beq p0.2.2.1 p0.2.2.2.2.1.length))&&(Nat.ble (p0.2.2.2.2.1.length+(List.length [(T.agg [(T.s (.int .i64 (Tm.id x31))),(T.s (.int .u64 0))])])) 549755813888))then
  some (.inl (p0.1,(List.take (Int.toNat ((List.length p0.2.1:Int)-1)) (List.drop 1 p0.2.1)),(List.length (p0.2.2.2.2.1++[(T.agg [(T.s (.int .i64 (Tm.id x31))),(T.s (.int .u64 0))])])),p0.2.2.2.1,(p0.2.2.2.2.1++[(T.agg [(T.s (.int .i64 (Tm.id x31))),(T.s (.int .u64 0))])]),()))
 else none)
 else none)
 else
  (idx p0.2.1 0).bind fun x33=>
  (idx p0.1 0).bind fun x34=>
  (bif(decide ((Tm.id x33)<(Tm.id x34)))then
  (idx p0.2.1 0).bind fun x35=>
  (idx p0.2.1 0).bind fun x36=>
  (bif(true&&((true&&(decide (1≤(List.length p0.2.1:Int))))&&(decide ((List.length p0.2.1:Int)≤(List.length p0.2.1:Int)))))then
  (bif((true&&(Nat.beq p0.2.2.1 p0.2.2.2.2.1.length))&&(Nat.ble (p0.2.2.2.2.1.length+(List.length [(T.agg [(T.s (.int .i64 (Tm.id x35))),(T.s (.int .u64 0))])])) 549755813888))then
  some (.inl (p0.1,(List.take (Int.toNat ((List.length p0.2.1:Int)-1)) (List.drop 1 p0.2.1)),(List.length (p0.2.2.2.2.1++[(T.agg [(T.s (.int .i64 (Tm.id x35))),(T.s (.int .u64 0))])])),p0.2.2.2.1,(p0.2.2.2.2.1++[(T.agg [(T.s (.int .i64 (Tm.id x35))),(T.s (.int .u64 0))])]),()))
 else none)
 else none)
 else
  (idx p0.1 0).bind fun x37=>
  (idx p0.1 0).bind fun x38=>
  (idx p0.2.1 0).bind fun x39=>
  (bif(true&&((true&&(decide (1≤(List.length p0.1:Int))))&&(decide ((List.length p0.1:Int)≤(List.length p0.1:Int)))))then
  (bif(true&&((true&&(decide (1≤(List.length p0.2.1:Int))))&&(decide ((List.length p0.2.1:Int)≤(List.length p0.2.1:Int)))))then
  (bif(!(decide ((Tm.c x38)=0)))then
  (bif((true&&(Nat.beq p0.2.2.1 p0.2.2.2.2.1.length))&&(Nat.ble (p0.2.2.2.2.1.length+(List.length [(T.agg [(T.s (.int .i64 (Tm.id x37))),(T.s (.int .u64 0))])])) 549755813888))then
  some (.inl ((List.take (Int.toNat ((List.length p0.1:Int)-1)) (List.drop 1 p0.1)),(List.take (Int.toNat ((List.length p0.2.1:Int)-1)) (List.drop 1 p0.2.1)),(List.length (p0.2.2.2.2.1++[(T.agg [(T.s (.int .i64 (Tm.id x37))),(T.s (.int .u64 0))])])),(((upS 0 [p0.2.2.2.1,(((qaq (Int.toNat (((Qe (Int.toNat (Tm.c x38)) (Int.toNat (((yG (Int.toNat (Tm.c x39))):Nat):Int)) 1):Nat):Int)) (Int.toNat (((Qe (Int.toNat (Tm.c x39)) (Int.toNat (((yG (Int.toNat (Tm.c x38))):Nat):Int)) 1):Nat):Int))):Nat):Int)]):Nat):Int),(p0.2.2.2.2.1++[(T.agg [(T.s (.int .i64 (Tm.id x37))),(T.s (.int .u64 0))])]),()))
 else none)
 else
  (bif((true&&(Nat.beq p0.2.2.1 p0.2.2.2.2.1.length))&&(Nat.ble (p0.2.2.2.2.1.length+(List.length [(T.agg [(T.s (.int .i64 (Tm.id x37))),(T.s (.int .u64 0))])])) 549755813888))then
  some (.inl ((List.take (Int.toNat ((List.length p0.1:Int)-1)) (List.drop 1 p0.1)),(List.take (Int.toNat ((List.length p0.2.1:Int)-1)) (List.drop 1 p0.2.1)),(List.length (p0.2.2.2.2.1++[(T.agg [(T.s (.int .i64 (Tm.id x37))),(T.s (.int .u64 0))])])),p0.2.2.2.1,(p0.2.2.2.2.1++[(T.agg [(T.s (.int .i64 (Tm.id x37))),(T.s (.int .u64 0))])]),()))
 else none))
 else none)
 else none))))
 else
  (bif(decide ((List.length p0.1:Int)=0))then
  (idx p0.2.1 0).bind fun x40=>
  (idx p0.2.1 0).bind fun x41=>
  (bif(true&&((true&&(decide (1≤(List.length p0.2.1:Int))))&&(decide ((List.length p0.2.1:Int)≤(List.length p0.2.1:Int)))))then
  (bif((true&&(Nat.beq p0.2.2.1 p0.2.2.2.2.1.length))&&(Nat.ble (p0.2.2.2.2.1.length+(List.length [(T.agg [(T.s (.int .i64 (Tm.id x40))),(T.s (.int .u64 0))])])) 549755813888))then
  some (.inl (p0.1,(List.take (Int.toNat ((List.length p0.2.1:Int)-1)) (List.drop 1 p0.2.1)),(List.length (p0.2.2.2.2.1++[(T.agg [(T.s (.int .i64 (Tm.id x40))),(T.s (.int .u64 0))])])),p0.2.2.2.1,(p0.2.2.2.2.1++[(T.agg [(T.s (.int .i64 (Tm.id x40))),(T.s (.int .u64 0))])]),()))
 else none)
 else none)
 else
  (idx p0.2.1 0).bind fun x42=>
  (idx p0.1 0).bind fun x43=>
  (bif(decide ((Tm.id x42)<(Tm.id x43)))then
  (idx p0.2.1 0).bind fun x44=>
  (idx p0.2.1 0).bind fun x45=>
  (bif(true&&((true&&(decide (1≤(List.length p0.2.1:Int))))&&(decide ((List.length p0.2.1:Int)≤(List.length p0.2.1:Int)))))then
  (bif((true&&(Nat.beq p0.2.2.1 p0.2.2.2.2.1.length))&&(Nat.ble (p0.2.2.2.2.1.length+(List.length [(T.agg [(T.s (.int .i64 (Tm.id x44))),(T.s (.int .u64 0))])])) 549755813888))then
  some (.inl (p0.1,(List.take (Int.toNat ((List.length p0.2.1:Int)-1)) (List.drop 1 p0.2.1)),(List.length (p0.2.2.2.2.1++[(T.agg [(T.s (.int .i64 (Tm.id x44))),(T.s (.int .u64 0))])])),p0.2.2.2.1,(p0.2.2.2.2.1++[(T.agg [(T.s (.int .i64 (Tm.id x44))),(T.s (.int .u64 0))])]),()))
 else none)
 else none)
 else
  (idx p0.1 0).bind fun x46=>
  (idx p0.1 0).bind fun x47=>
  (idx p0.2.1 0).bind fun x48=>
  (bif(true&&((true&&(decide (1≤(List.length p0.1:Int))))&&(decide ((List.length p0.1:Int)≤(List.length p0.1:Int)))))then
  (bif(true&&((true&&(decide (1≤(List.length p0.2.1:Int))))&&(decide ((List.length p0.2.1:Int)≤(List.length p0.2.1:Int)))))then
  (bif(!(decide ((Tm.c x47)=0)))then
  (bif((true&&(Nat.beq p0.2.2.1 p0.2.2.2.2.1.length))&&(Nat.ble (p0.2.2.2.2.1.length+(List.length [(T.agg [(T.s (.int .i64 (Tm.id x46))),(T.s (.int .u64 0))])])) 549755813888))then
  some (.inl ((List.take (Int.toNat ((List.length p0.1:Int)-1)) (List.drop 1 p0.1)),(List.take (Int.toNat ((List.length p0.2.1:Int)-1)) (List.drop 1 p0.2.1)),(List.length (p0.2.2.2.2.1++[(T.agg [(T.s (.int .i64 (Tm.id x46))),(T.s (.int .u64 0))])])),(((upS 0 [p0.2.2.2.1,(((qaq (Int.toNat (((Qe (Int.toNat (Tm.c x47)) (Int.toNat (((yG (Int.toNat (Tm.c x48))):Nat):Int)) 1):Nat):Int)) (Int.toNat (((Qe (Int.toNat (Tm.c x48)) (Int.toNat (((yG (Int.toNat (Tm.c x47))):Nat):Int)) 1):Nat):Int))):Nat):Int)]):Nat):Int),(p0.2.2.2.2.1++[(T.agg [(T.s (.int .i64 (Tm.id x46))),(T.s (.int .u64 0))])]),()))
 else none)
 else
  (bif((true&&(Nat.beq p0.2.2.1 p0.2.2.2.2.1.length))&&(Nat.ble (p0.2.2.2.2.1.length+(List.length [(T.agg [(T.s (.int .i64 (Tm.id x46))),(T.s (.int .u64 0))])])) 549755813888))then
  some (.inl ((List.take (Int.toNat ((List.length p0.1:Int)-1)) (List.drop 1 p0.1)),(List.take (Int.toNat ((List.length p0.2.1:Int)-1)) (List.drop 1 p0.2.1)),(List.length (p0.2.2.2.2.1++[(T.agg [(T.s (.int .i64 (Tm.id x46))),(T.s (.int .u64 0))])])),p0.2.2.2.1,(p0.2.2.2.2.1++[(T.agg [(T.s (.int .i64 (Tm.id x46))),(T.s (.int .u64 0))])]),()))
 else none))
 else none)
 else none)))))
 else
  some (.inr (p0.1,p0.2.1,p0.2.2.1,p0.2.2.2.1,p0.2.2.2.2.1,()))))
def qxK  (fu:Nat)(a:Fm)(j:Fm):Option Int :=
 (itP fu (yx) (a.2.2.1,j.2.2.1,0,(((qaq (Int.toNat (((Qe a.2.1.toNat (Int.toNat (yG j.2.1.toNat:Int)) 1):Nat):Int)) (Int.toNat (((Qe j.2.1.toNat (Int.toNat (yG a.2.1.toNat:Int)) 1):Nat):Int))):Nat):Int),[],())).bind fun x49=>
 some (upS 0 [x49.2.2.2.1,a.2.2.2]:Int)
abbrev MiS:=(List Tm)×((List Tm)×Nat×Int×(List T)×Unit)
def qkm(l m:List Tm)(e:Int)(A:List Tm):MiS:=(l,m,A.length,e,A.map vT,())
theorem qBR(l m:List Tm)(e:Int)(h:l.length+m.length≤549755813888):∃fu,itP fu yx (qkm l m e [])=some (qkm [] [] (qm QA (l.length+m.length) l m e).2 ([]++(qm QA (l.length+m.length) l m e).1)):=by
 have hb:∀A:List Tm,A.length+1≤549755813888→Nat.ble (A.length+1) 549755813888=true:=fun A h=>zB h
 refine qz4 (mk:=qkm) (B:=549755813888) ?_ ?_ ?_ ?_ ?_ ?_ (l.length+m.length) l m e [] (zE _) (by simpa using h)
 · intro e A
   rfl
 · intro x l e A hA
   show yx (x::l,[],A.length,e,A.map vT,())=_
   have hb:=hb A hA;cases hx:decide (x.c=0) <;> simp only[yx,qkm,QA,zw,zN,ZA,hz0,hnz,hp0,qbL,hle,qbM,JD,hx,hb,zn,qH,zL,zK,Kf,zX,zf,zi,zj,qbN,qbO] <;> rfl
 · intro y m e A hA
   show yx ([],y::m,A.length,e,A.map vT,())=_
   have hb:=hb A hA;simp only[yx,qkm,QA,zw,zN,ZA,hz0,hnz,hp0,qbL,hle,qbM,JD,hb,zn,qH,zL,zK,zf,zi,zj,qbN,qbO];rfl
 · intro x l y m e A hA h1
   show yx (x::l,y::m,A.length,e,A.map vT,())=_
   have hb:=hb A hA;cases hx:decide (x.c=0) <;> simp only[yx,qkm,QA,zw,zN,ZA,hz0,hnz,hp0,qbL,hle,qbM,JD,h1,hx,hb,zn,qH,zL,zK,Kf,zX,zf,zi,zj,qbN,qbO] <;> rfl
 · intro x l y m e A hA h1 h2
   show yx (x::l,y::m,A.length,e,A.map vT,())=_
   have hb:=hb A hA;simp only[yx,qkm,QA,zw,zN,ZA,hz0,hnz,hp0,qbL,hle,qbM,JD,h1,h2,hb,zn,qH,zL,zK,zf,zi,zj,qbN,qbO];rfl
 · intro x l y m e A hA h1 h2
   show yx (x::l,y::m,A.length,e,A.map vT,())=_
   have hb:=hb A hA;cases hx:decide (x.c=0) <;> simp only[yx,qkm,QA,zw,zN,ZA,hz0,hnz,hp0,qbL,hle,qbM,JD,h1,h2,hx,hb,zn,qH,zL,zK,Kf,zX,zf,zi,zj,qbN,qbO] <;> rfl
def qsD(p:Fm×Fm):Option Int:=bif Nat.ble (p.1.2.2.1.length+p.2.2.2.1.length) 549755813888 then some (qiC p.1 p.2.2.2.1 p.2.2.1)else none
theorem qxL(p:Fm×Fm)(y:Int)(hg:(dc jC (d1 jC)).good p)(h:qsD p=some y):∃n,qxK n p.1 p.2=some y:=by
 obtain⟨a,j⟩:=p;obtain⟨h1,h2⟩:=qj h;have:=soi h2;subst this
 obtain⟨n,hn⟩:=qBR a.2.2.1 j.2.2.1 (awI a.2.1 j.2.1) (zr h1)
 refine⟨n,?_⟩
 show qxK n a j=_
 unfold qxK;exact obs hn rfl
end
end Su
end
section
namespace Su
open Go Fly
noncomputable section
theorem QG{α:Type}{b:Bool}{x y:α}(h:b=false):(bif b then x else y)=y:=by rw[h];rfl
theorem jp{α:Type}{b:Bool}{x y:α}(h:b=true):(bif b then x else y)=x:=by rw[h];rfl
theorem qsE(y k:Nat):Int.fdiv (y:Int) (2^k)=((y / 2^k:Nat):Int):=by
 have h0:(0:Int)≤(2:Int)^k:=Int.pow_nonneg (by decide)
 rw[Int.fdiv_eq_ediv_of_nonneg _ h0];simp
end
end Su
end
