/-
  What functions of the program compute, in plain Lean, and that the evaluator finds it.
-/
import Derived.Test.YtnegfdebjikfiaaGreatSuXl
import Derived.Test.YtnegfdebjikfiaaGreatNC32
import Derived.Test.YtnegfdebjikfiaaGreatNC19
import Derived.Test.YtnegfdebjikfiaaGreatSuSd
set_option linter.unusedVariables false
set_option linter.unusedSimpArgs false
set_option maxRecDepth 10000
section
namespace Su
open Go Fly
noncomputable section
def jm:Stp ((List Tm)×(List Tm)×Nat×(List T)×Unit):=fun p1=>(bif(decide (0<(List.length p1.1:Int)))then
 (bif(decide ((List.length p1.2.1:Int)=0))then
 (idx p1.1 0).bind fun x2=>
 (idx p1.1 0).bind fun x3=>
 (bif(true&&((true&&(decide (1≤(List.length p1.1:Int))))&&(decide ((List.length p1.1:Int)≤(List.length p1.1:Int)))))then
 (bif(decide ((Tm.c x3)=0))then
 (bif((true&&(Nat.beq p1.2.2.1 p1.2.2.2.1.length))&&(Nat.ble (p1.2.2.2.1.length+(List.length [(T.agg [(T.s (.int .i64 (Tm.id x2))),(T.s (.int .u64 0))])])) 549755813888))then
 some (.inl ((List.take (Int.toNat ((List.length p1.1:Int)-1)) (List.drop 1 p1.1)),p1.2.1,(List.length (p1.2.2.2.1++[(T.agg [(T.s (.int .i64 (Tm.id x2))),(T.s (.int .u64 0))])])),(p1.2.2.2.1++[(T.agg [(T.s (.int .i64 (Tm.id x2))),(T.s (.int .u64 0))])]),()))
 else none)
 else
  (bif((true&&(Nat.beq p1.2.2.1 p1.2.2.2.1.length))&&(Nat.ble (p1.2.2.2.1.length+(List.length [(T.agg [(T.s (.int .i64 (Tm.id x2))),(T.s (.int .u64 0))])])) 549755813888))then
  some (.inl ((List.take (Int.toNat ((List.length p1.1:Int)-1)) (List.drop 1 p1.1)),p1.2.1,(List.length (p1.2.2.2.1++[(T.agg [(T.s (.int .i64 (Tm.id x2))),(T.s (.int .u64 0))])])),(p1.2.2.2.1++[(T.agg [(T.s (.int .i64 (Tm.id x2))),(T.s (.int .u64 0))])]),()))
 else none))
 else none)
 else
  (bif(decide (0<(List.length p1.1:Int)))then
  (idx p1.1 0).bind fun x4=>
  (idx p1.2.1 0).bind fun x5=>
  (bif(decide ((Tm.id x4)<(Tm.id x5)))then
  (idx p1.1 0).bind fun x6=>
  (idx p1.1 0).bind fun x7=>
  (bif(true&&((true&&(decide (1≤(List.length p1.1:Int))))&&(decide ((List.length p1.1:Int)≤(List.length p1.1:Int)))))then
  (bif(decide ((Tm.c x7)=0))then
  (bif((true&&(Nat.beq p1.2.2.1 p1.2.2.2.1.length))&&(Nat.ble (p1.2.2.2.1.length+(List.length [(T.agg [(T.s (.int .i64 (Tm.id x6))),(T.s (.int .u64 0))])])) 549755813888))then
  some (.inl ((List.take (Int.toNat ((List.length p1.1:Int)-1)) (List.drop 1 p1.1)),p1.2.1,(List.length (p1.2.2.2.1++[(T.agg [(T.s (.int .i64 (Tm.id x6))),(T.s (.int .u64 0))])])),(p1.2.2.2.1++[(T.agg [(T.s (.int .i64 (Tm.id x6))),(T.s (.int .u64 0))])]),()))
 else none)
 else
  (bif((true&&(Nat.beq p1.2.2.1 p1.2.2.2.1.length))&&(Nat.ble (p1.2.2.2.1.length+(List.length [(T.agg [(T.s (.int .i64 (Tm.id x6))),(T.s (.int .u64 0))])])) 549755813888))then
  some (.inl ((List.take (Int.toNat ((List.length p1.1:Int)-1)) (List.drop 1 p1.1)),p1.2.1,(List.length (p1.2.2.2.1++[(T.agg [(T.s (.int .i64 (Tm.id x6))),(T.s (.int .u64 0))])])),(p1.2.2.2.1++[(T.agg [(T.s (.int .i64 (Tm.id x6))),(T.s (.int .u64 0))])]),()))
 else none))
 else none)
 else
  (bif(decide ((List.length p1.1:Int)=0))then
  (idx p1.2.1 0).bind fun x8=>
  (idx p1.2.1 0).bind fun x9=>
  (bif(true&&((true&&(decide (1≤(List.length p1.2.1:Int))))&&(decide ((List.length p1.2.1:Int)≤(List.length p1.2.1:Int)))))then
  (bif((true&&(Nat.beq p1.2.2.1 p1.2.2.2.1.length))&&(Nat.ble (p1.2.2.2.1.length+(List.length [(T.agg [(T.s (.int .i64 (Tm.id x8))),(T.s (.int .u64 0))])])) 549755813888))then
  some (.inl (p1.1,(List.take (Int.toNat ((List.length p1.2.1:Int)-1)) (List.drop 1 p1.2.1)),(List.length (p1.2.2.2.1++[(T.agg [(T.s (.int .i64 (Tm.id x8))),(T.s (.int .u64 0))])])),(p1.2.2.2.1++[(T.agg [(T.s (.int .i64 (Tm.id x8))),(T.s (.int .u64 0))])]),()))
 else none)
 else none)
 else
  (idx p1.2.1 0).bind fun x10=>
  (idx p1.1 0).bind fun x11=>
  (bif(decide ((Tm.id x10)<(Tm.id x11)))then
  (idx p1.2.1 0).bind fun x12=>
  (idx p1.2.1 0).bind fun x13=>
  (bif(true&&((true&&(decide (1≤(List.length p1.2.1:Int))))&&(decide ((List.length p1.2.1:Int)≤(List.length p1.2.1:Int)))))then
  (bif((true&&(Nat.beq p1.2.2.1 p1.2.2.2.1.length))&&(Nat.ble (p1.2.2.2.1.length+(List.length [(T.agg [(T.s (.int .i64 (Tm.id x12))),(T.s (.int .u64 0))])])) 549755813888))then
  some (.inl (p1.1,(List.take (Int.toNat ((List.length p1.2.1:Int)-1)) (List.drop 1 p1.2.1)),(List.length (p1.2.2.2.1++[(T.agg [(T.s (.int .i64 (Tm.id x12))),(T.s (.int .u64 0))])])),(p1.2.2.2.1++[(T.agg [(T.s (.int .i64 (Tm.id x12))),(T.s (.int .u64 0))])]),()))
 else none)
 else none)
 else
  (idx p1.1 0).bind fun x14=>
  (idx p1.1 0).bind fun x15=>
  (idx p1.2.1 0).bind fun x16=>
  (bif(true&&((true&&(decide (1≤(List.length p1.1:Int))))&&(decide ((List.length p1.1:Int)≤(List.length p1.1:Int)))))then
  (bif(true&&((true&&(decide (1≤(List.length p1.2.1:Int))))&&(decide ((List.length p1.2.1:Int)≤(List.length p1.2.1:Int)))))then
  (bif(decide ((Tm.c x15)=0))then
  (bif((true&&(Nat.beq p1.2.2.1 p1.2.2.2.1.length))&&(Nat.ble (p1.2.2.2.1.length+(List.length [(T.agg [(T.s (.int .i64 (Tm.id x14))),(T.s (.int .u64 0))])])) 549755813888))then
  some (.inl ((List.take (Int.toNat ((List.length p1.1:Int)-1)) (List.drop 1 p1.1)),(List.take (Int.toNat ((List.length p1.2.1:Int)-1)) (List.drop 1 p1.2.1)),(List.length (p1.2.2.2.1++[(T.agg [(T.s (.int .i64 (Tm.id x14))),(T.s (.int .u64 0))])])),(p1.2.2.2.1++[(T.agg [(T.s (.int .i64 (Tm.id x14))),(T.s (.int .u64 0))])]),()))
 else none)
 else
  (bif(decide ((Tm.c x16)=0))then
  (bif((true&&(Nat.beq p1.2.2.1 p1.2.2.2.1.length))&&(Nat.ble (p1.2.2.2.1.length+(List.length [(T.agg [(T.s (.int .i64 (Tm.id x14))),(T.s (.int .u64 0))])])) 549755813888))then
  some (.inl ((List.take (Int.toNat ((List.length p1.1:Int)-1)) (List.drop 1 p1.1)),(List.take (Int.toNat ((List.length p1.2.1:Int)-1)) (List.drop 1 p1.2.1)),(List.length (p1.2.2.2.1++[(T.agg [(T.s (.int .i64 (Tm.id x14))),(T.s (.int .u64 0))])])),(p1.2.2.2.1++[(T.agg [(T.s (.int .i64 (Tm.id x14))),(T.s (.int .u64 0))])]),()))
 else none)
 else
  (bif(!(decide ((Int.fdiv (Tm.c x15) (2^63))=(Int.fdiv (Tm.c x16) (2^63)))))then
  (bif((true&&(Nat.beq p1.2.2.1 p1.2.2.2.1.length))&&(Nat.ble (p1.2.2.2.1.length+(List.length [(T.agg [(T.s (.int .i64 (Tm.id x14))),(T.s (.int .u64 0))])])) 549755813888))then
  some (.inl ((List.take (Int.toNat ((List.length p1.1:Int)-1)) (List.drop 1 p1.1)),(List.take (Int.toNat ((List.length p1.2.1:Int)-1)) (List.drop 1 p1.2.1)),(List.length (p1.2.2.2.1++[(T.agg [(T.s (.int .i64 (Tm.id x14))),(T.s (.int .u64 0))])])),(p1.2.2.2.1++[(T.agg [(T.s (.int .i64 (Tm.id x14))),(T.s (.int .u64 0))])]),()))
 else none)
 else
  (bif(jV (Int.toNat (((jT (Int.toNat (Tm.c x16))):Nat):Int)) (Int.toNat (((jT (Int.toNat (Tm.c x15))):Nat):Int)))then
  (bif((true&&(Nat.beq p1.2.2.1 p1.2.2.2.1.length))&&(Nat.ble (p1.2.2.2.1.length+(List.length [(T.agg [(T.s (.int .i64 (Tm.id x14))),(T.s (.int .u64 (Tm.c x16)))])])) 549755813888))then
  some (.inl ((List.take (Int.toNat ((List.length p1.1:Int)-1)) (List.drop 1 p1.1)),(List.take (Int.toNat ((List.length p1.2.1:Int)-1)) (List.drop 1 p1.2.1)),(List.length (p1.2.2.2.1++[(T.agg [(T.s (.int .i64 (Tm.id x14))),(T.s (.int .u64 (Tm.c x16)))])])),(p1.2.2.2.1++[(T.agg [(T.s (.int .i64 (Tm.id x14))),(T.s (.int .u64 (Tm.c x16)))])]),()))
 else none)
 else
  (bif((true&&(Nat.beq p1.2.2.1 p1.2.2.2.1.length))&&(Nat.ble (p1.2.2.2.1.length+(List.length [(T.agg [(T.s (.int .i64 (Tm.id x14))),(T.s (.int .u64 (Tm.c x15)))])])) 549755813888))then
  some (.inl ((List.take (Int.toNat ((List.length p1.1:Int)-1)) (List.drop 1 p1.1)),(List.take (Int.toNat ((List.length p1.2.1:Int)-1)) (List.drop 1 p1.2.1)),(List.length (p1.2.2.2.1++[(T.agg [(T.s (.int .i64 (Tm.id x14))),(T.s (.int .u64 (Tm.c x15)))])])),(p1.2.2.2.1++[(T.agg [(T.s (.int .i64 (Tm.id x14))),(T.s (.int .u64 (Tm.c x15)))])]),()))
 else none)))))
 else none)
 else none))))
 else
  (bif(decide ((List.length p1.1:Int)=0))then
  (idx p1.2.1 0).bind fun x17=>
  (idx p1.2.1 0).bind fun x18=>
  (bif(true&&((true&&(decide (1≤(List.length p1.2.1:Int))))&&(decide ((List.length p1.2.1:Int)≤(List.length p1.2.1:Int)))))then
  (bif((true&&(Nat.beq p1.2.2.1 p1.2.2.2.1.length))&&(Nat.ble (p1.2.2.2.1.length+(List.length [(T.agg [(T.s (.int .i64 (Tm.id x17))),(T.s (.int .u64 0))])])) 549755813888))then
  some (.inl (p1.1,(List.take (Int.toNat ((List.length p1.2.1:Int)-1)) (List.drop 1 p1.2.1)),(List.length (p1.2.2.2.1++[(T.agg [(T.s (.int .i64 (Tm.id x17))),(T.s (.int .u64 0))])])),(p1.2.2.2.1++[(T.agg [(T.s (.int .i64 (Tm.id x17))),(T.s (.int .u64 0))])]),()))
 else none)
 else none)
 else
  (idx p1.2.1 0).bind fun x19=>
  (idx p1.1 0).bind fun x20=>
  (bif(decide ((Tm.id x19)<(Tm.id x20)))then
  (idx p1.2.1 0).bind fun x21=>
  (idx p1.2.1 0).bind fun x22=>
  (bif(true&&((true&&(decide (1≤(List.length p1.2.1:Int))))&&(decide ((List.length p1.2.1:Int)≤(List.length p1.2.1:Int)))))then
  (bif((true&&(Nat.beq p1.2.2.1 p1.2.2.2.1.length))&&(Nat.ble (p1.2.2.2.1.length+(List.length [(T.agg [(T.s (.int .i64 (Tm.id x21))),(T.s (.int .u64 0))])])) 549755813888))then
  some (.inl (p1.1,(List.take (Int.toNat ((List.length p1.2.1:Int)-1)) (List.drop 1 p1.2.1)),(List.length (p1.2.2.2.1++[(T.agg [(T.s (.int .i64 (Tm.id x21))),(T.s (.int .u64 0))])])),(p1.2.2.2.1++[(T.agg [(T.s (.int .i64 (Tm.id x21))),(T.s (.int .u64 0))])]),()))
 else none)
 else none)
 else
  (idx p1.1 0).bind fun x23=>
  (idx p1.1 0).bind fun x24=>
  (idx p1.2.1 0).bind fun x25=>
  (bif(true&&((true&&(decide (1≤(List.length p1.1:Int))))&&(decide ((List.length p1.1:Int)≤(List.length p1.1:Int)))))then
  (bif(true&&((true&&(decide (1≤(List.length p1.2.1:Int))))&&(decide ((List.length p1.2.1:Int)≤(List.length p1.2.1:Int)))))then
  (bif(decide ((Tm.c x24)=0))then
  (bif((true&&(Nat.beq p1.2.2.1 p1.2.2.2.1.length))&&(Nat.ble (p1.2.2.2.1.length+(List.length [(T.agg [(T.s (.int .i64 (Tm.id x23))),(T.s (.int .u64 0))])])) 549755813888))then
  some (.inl ((List.take (Int.toNat ((List.length p1.1:Int)-1)) (List.drop 1 p1.1)),(List.take (Int.toNat ((List.length p1.2.1:Int)-1)) (List.drop 1 p1.2.1)),(List.length (p1.2.2.2.1++[(T.agg [(T.s (.int .i64 (Tm.id x23))),(T.s (.int .u64 0))])])),(p1.2.2.2.1++[(T.agg [(T.s (.int .i64 (Tm.id x23))),(T.s (.int .u64 0))])]),()))
 else none)
 else
  (bif(decide ((Tm.c x25)=0))then
  (bif((true&&(Nat.beq p1.2.2.1 p1.2.2.2.1.length))&&(Nat.ble (p1.2.2.2.1.length+(List.length [(T.agg [(T.s (.int .i64 (Tm.id x23))),(T.s (.int .u64 0))])])) 549755813888))then
  some (.inl ((List.take (Int.toNat ((List.length p1.1:Int)-1)) (List.drop 1 p1.1)),(List.take (Int.toNat ((List.length p1.2.1:Int)-1)) (List.drop 1 p1.2.1)),(List.length (p1.2.2.2.1++[(T.agg [(T.s (.int .i64 (Tm.id x23))),(T.s (.int .u64 0))])])),(p1.2.2.2.1++[(T.agg [(T.s (.int .i64 (Tm.id x23))),(T.s (.int .u64 0))])]),()))
 else none)
 else
  (bif(!(decide ((Int.fdiv (Tm.c x24) (2^63))=(Int.fdiv (Tm.c x25) (2^63)))))then
  (bif((true&&(Nat.beq p1.2.2.1 p1.2.2.2.1.length))&&(Nat.ble (p1.2.2.2.1.length+(List.length [(T.agg [(T.s (.int .i64 (Tm.id x23))),(T.s (.int .u64 0))])])) 549755813888))then
  some (.inl ((List.take (Int.toNat ((List.length p1.1:Int)-1)) (List.drop 1 p1.1)),(List.take (Int.toNat ((List.length p1.2.1:Int)-1)) (List.drop 1 p1.2.1)),(List.length (p1.2.2.2.1++[(T.agg [(T.s (.int .i64 (Tm.id x23))),(T.s (.int .u64 0))])])),(p1.2.2.2.1++[(T.agg [(T.s (.int .i64 (Tm.id x23))),(T.s (.int .u64 0))])]),()))
 else none)
 else
  (bif(jV (Int.toNat (((jT (Int.toNat (Tm.c x25))):Nat):Int)) (Int.toNat (((jT (Int.toNat (Tm.c x24))):Nat):Int)))then
  (bif((true&&(Nat.beq p1.2.2.1 p1.2.2.2.1.length))&&(Nat.ble (p1.2.2.2.1.length+(List.length [(T.agg [(T.s (.int .i64 (Tm.id x23))),(T.s (.int .u64 (Tm.c x25)))])])) 549755813888))then
  some (.inl ((List.take (Int.toNat ((List.length p1.1:Int)-1)) (List.drop 1 p1.1)),(List.take (Int.toNat ((List.length p1.2.1:Int)-1)) (List.drop 1 p1.2.1)),(List.length (p1.2.2.2.1++[(T.agg [(T.s (.int .i64 (Tm.id x23))),(T.s (.int .u64 (Tm.c x25)))])])),(p1.2.2.2.1++[(T.agg [(T.s (.int .i64 (Tm.id x23))),(T.s (.int .u64 (Tm.c x25)))])]),()))
 else none)
 else
  (bif((true&&(Nat.beq p1.2.2.1 p1.2.2.2.1.length))&&(Nat.ble (p1.2.2.2.1.length+(List.length [(T.agg [(T.s (.int .i64 (Tm.id x23))),(T.s (.int .u64 (Tm.c x24)))])])) 549755813888))then
  some (.inl ((List.take (Int.toNat ((List.length p1.1:Int)-1)) (List.drop 1 p1.1)),(List.take (Int.toNat ((List.length p1.2.1:Int)-1)) (List.drop 1 p1.2.1)),(List.length (p1.2.2.2.1++[(T.agg [(T.s (.int .i64 (Tm.id x23))),(T.s (.int .u64 (Tm.c x24)))])])),(p1.2.2.2.1++[(T.agg [(T.s (.int .i64 (Tm.id x23))),(T.s (.int .u64 (Tm.c x24)))])]),()))
 else none)))))
 else none)
 else none)))))
 else
  (bif(decide (0<(List.length p1.2.1:Int)))then
  (bif(decide ((List.length p1.2.1:Int)=0))then
  (idx p1.1 0).bind fun x26=>
  (idx p1.1 0).bind fun x27=>
  (bif(true&&((true&&(decide (1≤(List.length p1.1:Int))))&&(decide ((List.length p1.1:Int)≤(List.length p1.1:Int)))))then
  (bif(decide ((Tm.c x27)=0))then
  (bif((true&&(Nat.beq p1.2.2.1 p1.2.2.2.1.length))&&(Nat.ble (p1.2.2.2.1.length+(List.length [(T.agg [(T.s (.int .i64 (Tm.id x26))),(T.s (.int .u64 0))])])) 549755813888))then
  some (.inl ((List.take (Int.toNat ((List.length p1.1:Int)-1)) (List.drop 1 p1.1)),p1.2.1,(List.length (p1.2.2.2.1++[(T.agg [(T.s (.int .i64 (Tm.id x26))),(T.s (.int .u64 0))])])),(p1.2.2.2.1++[(T.agg [(T.s (.int .i64 (Tm.id x26))),(T.s (.int .u64 0))])]),()))
 else none)
 else
  (bif((true&&(Nat.beq p1.2.2.1 p1.2.2.2.1.length))&&(Nat.ble (p1.2.2.2.1.length+(List.length [(T.agg [(T.s (.int .i64 (Tm.id x26))),(T.s (.int .u64 0))])])) 549755813888))then
  some (.inl ((List.take (Int.toNat ((List.length p1.1:Int)-1)) (List.drop 1 p1.1)),p1.2.1,(List.length (p1.2.2.2.1++[(T.agg [(T.s (.int .i64 (Tm.id x26))),(T.s (.int .u64 0))])])),(p1.2.2.2.1++[(T.agg [(T.s (.int .i64 (Tm.id x26))),(T.s (.int .u64 0))])]),()))
 else none))
 else none)
 else
  (bif(decide (0<(List.length p1.1:Int)))then
  (idx p1.1 0).bind fun x28=>
  (idx p1.2.1 0).bind fun x29=>
  (bif(decide ((Tm.id x28)<(Tm.id x29)))then
  (idx p1.1 0).bind fun x30=>
  (idx p1.1 0).bind fun x31=>
  (bif(true&&((true&&(decide (1≤(List.length p1.1:Int))))&&(decide ((List.length p1.1:Int)≤(List.length p1.1:Int)))))then
  (bif(decide ((Tm.c x31)=0))then
  (bif((true&&(Nat.beq p1.2.2.1 p1.2.2.2.1.length))&&(Nat.ble (p1.2.2.2.1.length+(List.length [(T.agg [(T.s (.int .i64 (Tm.id x30))),(T.s (.int .u64 0))])])) 549755813888))then
  some (.inl ((List.take (Int.toNat ((List.length p1.1:Int)-1)) (List.drop 1 p1.1)),p1.2.1,(List.length (p1.2.2.2.1++[(T.agg [(T.s (.int .i64 (Tm.id x30))),(T.s (.int .u64 0))])])),(p1.2.2.2.1++[(T.agg [(T.s (.int .i64 (Tm.id x30))),(T.s (.int .u64 0))])]),()))
 else none)
 else
  (bif((true&&(Nat.beq p1.2.2.1 p1.2.2.2.1.length))&&(Nat.ble (p1.2.2.2.1.length+(List.length [(T.agg [(T.s (.int .i64 (Tm.id x30))),(T.s (.int .u64 0))])])) 549755813888))then
  some (.inl ((List.take (Int.toNat ((List.length p1.1:Int)-1)) (List.drop 1 p1.1)),p1.2.1,(List.length (p1.2.2.2.1++[(T.agg [(T.s (.int .i64 (Tm.id x30))),(T.s (.int .u64 0))])])),(p1.2.2.2.1++[(T.agg [(T.s (.int .i64 (Tm.id x30))),(T.s (.int .u64 0))])]),()))
 else none))
 else none)
 else
  (bif(decide ((List.length p1.1:Int)=0))then
  (idx p1.2.1 0).bind fun x32=>
  (idx p1.2.1 0).bind fun x33=>
  (bif(true&&((true&&(decide (1≤(List.length p1.2.1:Int))))&&(decide ((List.length p1.2.1:Int)≤(List.length p1.2.1:Int)))))then
  (bif((true&&(Nat.beq p1.2.2.1 p1.2.2.2.1.length))&&(Nat.ble (p1.2.2.2.1.length+(List.length [(T.agg [(T.s (.int .i64 (Tm.id x32))),(T.s (.int .u64 0))])])) 549755813888))then
  some (.inl (p1.1,(List.take (Int.toNat ((List.length p1.2.1:Int)-1)) (List.drop 1 p1.2.1)),(List.length (p1.2.2.2.1++[(T.agg [(T.s (.int .i64 (Tm.id x32))),(T.s (.int .u64 0))])])),(p1.2.2.2.1++[(T.agg [(T.s (.int .i64 (Tm.id x32))),(T.s (.int .u64 0))])]),()))
 else none)
 else none)
 else
  (idx p1.2.1 0).bind fun x34=>
  (idx p1.1 0).bind fun x35=>
  (bif(decide ((Tm.id x34)<(Tm.id x35)))then
  (idx p1.2.1 0).bind fun x36=>
  (idx p1.2.1 0).bind fun x37=>
  (bif(true&&((true&&(decide (1≤(List.length p1.2.1:Int))))&&(decide ((List.length p1.2.1:Int)≤(List.length p1.2.1:Int)))))then
  (bif((true&&(Nat.beq p1.2.2.1 p1.2.2.2.1.length))&&(Nat.ble (p1.2.2.2.1.length+(List.length [(T.agg [(T.s (.int .i64 (Tm.id x36))),(T.s (.int .u64 0))])])) 549755813888))then
  some (.inl (p1.1,(List.take (Int.toNat ((List.length p1.2.1:Int)-1)) (List.drop 1 p1.2.1)),(List.length (p1.2.2.2.1++[(T.agg [(T.s (.int .i64 (Tm.id x36))),(T.s (.int .u64 0))])])),(p1.2.2.2.1++[(T.agg [(T.s (.int .i64 (Tm.id x36))),(T.s (.int .u64 0))])]),()))
 else none)
 else none)
 else
  (idx p1.1 0).bind fun x38=>
  (idx p1.1 0).bind fun x39=>
  (idx p1.2.1 0).bind fun x40=>
  (bif(true&&((true&&(decide (1≤(List.length p1.1:Int))))&&(decide ((List.length p1.1:Int)≤(List.length p1.1:Int)))))then
  (bif(true&&((true&&(decide (1≤(List.length p1.2.1:Int))))&&(decide ((List.length p1.2.1:Int)≤(List.length p1.2.1:Int)))))then
  (bif(decide ((Tm.c x39)=0))then
  (bif((true&&(Nat.beq p1.2.2.1 p1.2.2.2.1.length))&&(Nat.ble (p1.2.2.2.1.length+(List.length [(T.agg [(T.s (.int .i64 (Tm.id x38))),(T.s (.int .u64 0))])])) 549755813888))then
  some (.inl ((List.take (Int.toNat ((List.length p1.1:Int)-1)) (List.drop 1 p1.1)),(List.take (Int.toNat ((List.length p1.2.1:Int)-1)) (List.drop 1 p1.2.1)),(List.length (p1.2.2.2.1++[(T.agg [(T.s (.int .i64 (Tm.id x38))),(T.s (.int .u64 0))])])),(p1.2.2.2.1++[(T.agg [(T.s (.int .i64 (Tm.id x38))),(T.s (.int .u64 0))])]),()))
 else none)
 else
  (bif(decide ((Tm.c x40)=0))then
  (bif((true&&(Nat.beq p1.2.2.1 p1.2.2.2.1.length))&&(Nat.ble (p1.2.2.2.1.length+(List.length [(T.agg [(T.s (.int .i64 (Tm.id x38))),(T.s (.int .u64 0))])])) 549755813888))then
  some (.inl ((List.take (Int.toNat ((List.length p1.1:Int)-1)) (List.drop 1 p1.1)),(List.take (Int.toNat ((List.length p1.2.1:Int)-1)) (List.drop 1 p1.2.1)),(List.length (p1.2.2.2.1++[(T.agg [(T.s (.int .i64 (Tm.id x38))),(T.s (.int .u64 0))])])),(p1.2.2.2.1++[(T.agg [(T.s (.int .i64 (Tm.id x38))),(T.s (.int .u64 0))])]),()))
 else none)
 else
  (bif(!(decide ((Int.fdiv (Tm.c x39) (2^63))=(Int.fdiv (Tm.c x40) (2^63)))))then
  (bif((true&&(Nat.beq p1.2.2.1 p1.2.2.2.1.length))&&(Nat.ble (p1.2.2.2.1.length+(List.length [(T.agg [(T.s (.int .i64 (Tm.id x38))),(T.s (.int .u64 0))])])) 549755813888))then
  some (.inl ((List.take (Int.toNat ((List.length p1.1:Int)-1)) (List.drop 1 p1.1)),(List.take (Int.toNat ((List.length p1.2.1:Int)-1)) (List.drop 1 p1.2.1)),(List.length (p1.2.2.2.1++[(T.agg [(T.s (.int .i64 (Tm.id x38))),(T.s (.int .u64 0))])])),(p1.2.2.2.1++[(T.agg [(T.s (.int .i64 (Tm.id x38))),(T.s (.int .u64 0))])]),()))
 else none)
 else
  (bif(jV (Int.toNat (((jT (Int.toNat (Tm.c x40))):Nat):Int)) (Int.toNat (((jT (Int.toNat (Tm.c x39))):Nat):Int)))then
  (bif((true&&(Nat.beq p1.2.2.1 p1.2.2.2.1.length))&&(Nat.ble (p1.2.2.2.1.length+(List.length [(T.agg [(T.s (.int .i64 (Tm.id x38))),(T.s (.int .u64 (Tm.c x40)))])])) 549755813888))then
  some (.inl ((List.take (Int.toNat ((List.length p1.1:Int)-1)) (List.drop 1 p1.1)),(List.take (Int.toNat ((List.length p1.2.1:Int)-1)) (List.drop 1 p1.2.1)),(List.length (p1.2.2.2.1++[(T.agg [(T.s (.int .i64 (Tm.id x38))),(T.s (.int .u64 (Tm.c x40)))])])),(p1.2.2.2.1++[(T.agg [(T.s (.int .i64 (Tm.id x38))),(T.s (.int .u64 (Tm.c x40)))])]),()))
 else none)
 else
  (bif((true&&(Nat.beq p1.2.2.1 p1.2.2.2.1.length))&&(Nat.ble (p1.2.2.2.1.length+(List.length [(T.agg [(T.s (.int .i64 (Tm.id x38))),(T.s (.int .u64 (Tm.c x39)))])])) 549755813888))then
  some (.inl ((List.take (Int.toNat ((List.length p1.1:Int)-1)) (List.drop 1 p1.1)),(List.take (Int.toNat ((List.length p1.2.1:Int)-1)) (List.drop 1 p1.2.1)),(List.length (p1.2.2.2.1++[(T.agg [(T.s (.int .i64 (Tm.id x38))),(T.s (.int .u64 (Tm.c x39)))])])),(p1.2.2.2.1++[(T.agg [(T.s (.int .i64 (Tm.id x38))),(T.s (.int .u64 (Tm.c x39)))])]),()))
 else none)))))
 else none)
 else none))))
 else
  (bif(decide ((List.length p1.1:Int)=0))then
  (idx p1.2.1 0).bind fun x41=>
  (idx p1.2.1 0).bind fun x42=>
  (bif(true&&((true&&(decide (1≤(List.length p1.2.1:Int))))&&(decide ((List.length p1.2.1:Int)≤(List.length p1.2.1:Int)))))then
  (bif((true&&(Nat.beq p1.2.2.1 p1.2.2.2.1.length))&&(Nat.ble (p1.2.2.2.1.length+(List.length [(T.agg [(T.s (.int .i64 (Tm.id x41))),(T.s (.int .u64 0))])])) 549755813888))then
  some (.inl (p1.1,(List.take (Int.toNat ((List.length p1.2.1:Int)-1)) (List.drop 1 p1.2.1)),(List.length (p1.2.2.2.1++[(T.agg [(T.s (.int .i64 (Tm.id x41))),(T.s (.int .u64 0))])])),(p1.2.2.2.1++[(T.agg [(T.s (.int .i64 (Tm.id x41))),(T.s (.int .u64 0))])]),()))
 else none)
 else none)
 else
  (idx p1.2.1 0).bind fun x43=>
  (idx p1.1 0).bind fun x44=>
  (bif(decide ((Tm.id x43)<(Tm.id x44)))then
  (idx p1.2.1 0).bind fun x45=>
  (idx p1.2.1 0).bind fun x46=>
  (bif(true&&((true&&(decide (1≤(List.length p1.2.1:Int))))&&(decide ((List.length p1.2.1:Int)≤(List.length p1.2.1:Int)))))then
  (bif((true&&(Nat.beq p1.2.2.1 p1.2.2.2.1.length))&&(Nat.ble (p1.2.2.2.1.length+(List.length [(T.agg [(T.s (.int .i64 (Tm.id x45))),(T.s (.int .u64 0))])])) 549755813888))then
  some (.inl (p1.1,(List.take (Int.toNat ((List.length p1.2.1:Int)-1)) (List.drop 1 p1.2.1)),(List.length (p1.2.2.2.1++[(T.agg [(T.s (.int .i64 (Tm.id x45))),(T.s (.int .u64 0))])])),(p1.2.2.2.1++[(T.agg [(T.s (.int .i64 (Tm.id x45))),(T.s (.int .u64 0))])]),()))
 else none)
 else none)
 else
  (idx p1.1 0).bind fun x47=>
  (idx p1.1 0).bind fun x48=>
  (idx p1.2.1 0).bind fun x49=>
  (bif(true&&((true&&(decide (1≤(List.length p1.1:Int))))&&(decide ((List.length p1.1:Int)≤(List.length p1.1:Int)))))then
  (bif(true&&((true&&(decide (1≤(List.length p1.2.1:Int))))&&(decide ((List.length p1.2.1:Int)≤(List.length p1.2.1:Int)))))then
  (bif(decide ((Tm.c x48)=0))then
  (bif((true&&(Nat.beq p1.2.2.1 p1.2.2.2.1.length))&&(Nat.ble (p1.2.2.2.1.length+(List.length [(T.agg [(T.s (.int .i64 (Tm.id x47))),(T.s (.int .u64 0))])])) 549755813888))then
  some (.inl ((List.take (Int.toNat ((List.length p1.1:Int)-1)) (List.drop 1 p1.1)),(List.take (Int.toNat ((List.length p1.2.1:Int)-1)) (List.drop 1 p1.2.1)),(List.length (p1.2.2.2.1++[(T.agg [(T.s (.int .i64 (Tm.id x47))),(T.s (.int .u64 0))])])),(p1.2.2.2.1++[(T.agg [(T.s (.int .i64 (Tm.id x47))),(T.s (.int .u64 0))])]),()))
 else none)
 else
  (bif(decide ((Tm.c x49)=0))then
  (bif((true&&(Nat.beq p1.2.2.1 p1.2.2.2.1.length))&&(Nat.ble (p1.2.2.2.1.length+(List.length [(T.agg [(T.s (.int .i64 (Tm.id x47))),(T.s (.int .u64 0))])])) 549755813888))then
  some (.inl ((List.take (Int.toNat ((List.length p1.1:Int)-1)) (List.drop 1 p1.1)),(List.take (Int.toNat ((List.length p1.2.1:Int)-1)) (List.drop 1 p1.2.1)),(List.length (p1.2.2.2.1++[(T.agg [(T.s (.int .i64 (Tm.id x47))),(T.s (.int .u64 0))])])),(p1.2.2.2.1++[(T.agg [(T.s (.int .i64 (Tm.id x47))),(T.s (.int .u64 0))])]),()))
 else none)
 else
  (bif(!(decide ((Int.fdiv (Tm.c x48) (2^63))=(Int.fdiv (Tm.c x49) (2^63)))))then
  (bif((true&&(Nat.beq p1.2.2.1 p1.2.2.2.1.length))&&(Nat.ble (p1.2.2.2.1.length+(List.length [(T.agg [(T.s (.int .i64 (Tm.id x47))),(T.s (.int .u64 0))])])) 549755813888))then
  some (.inl ((List.take (Int.toNat ((List.length p1.1:Int)-1)) (List.drop 1 p1.1)),(List.take (Int.toNat ((List.length p1.2.1:Int)-1)) (List.drop 1 p1.2.1)),(List.length (p1.2.2.2.1++[(T.agg [(T.s (.int .i64 (Tm.id x47))),(T.s (.int .u64 0))])])),(p1.2.2.2.1++[(T.agg [(T.s (.int .i64 (Tm.id x47))),(T.s (.int .u64 0))])]),()))
 else none)
 else
  (bif(jV (Int.toNat (((jT (Int.toNat (Tm.c x49))):Nat):Int)) (Int.toNat (((jT (Int.toNat (Tm.c x48))):Nat):Int)))then
  (bif((true&&(Nat.beq p1.2.2.1 p1.2.2.2.1.length))&&(Nat.ble (p1.2.2.2.1.length+(List.length [(T.agg [(T.s (.int .i64 (Tm.id x47))),(T.s (.int .u64 (Tm.c x49)))])])) 549755813888))then
  some (.inl ((List.take (Int.toNat ((List.length p1.1:Int)-1)) (List.drop 1 p1.1)),(List.take (Int.toNat ((List.length p1.2.1:Int)-1)) (List.drop 1 p1.2.1)),(List.length (p1.2.2.2.1++[(T.agg [(T.s (.int .i64 (Tm.id x47))),(T.s (.int .u64 (Tm.c x49)))])])),(p1.2.2.2.1++[(T.agg [(T.s (.int .i64 (Tm.id x47))),(T.s (.int .u64 (Tm.c x49)))])]),()))
 else none)
 else
  (bif((true&&(Nat.beq p1.2.2.1 p1.2.2.2.1.length))&&(Nat.ble (p1.2.2.2.1.length+(List.length [(T.agg [(T.s (.int .i64 (Tm.id x47))),(T.s (.int .u64 (Tm.c x48)))])])) 549755813888))then
  some (.inl ((List.take (Int.toNat ((List.length p1.1:Int)-1)) (List.drop 1 p1.1)),(List.take (Int.toNat ((List.length p1.2.1:Int)-1)) (List.drop 1 p1.2.1)),(List.length (p1.2.2.2.1++[(T.agg [(T.s (.int .i64 (Tm.id x47))),(T.s (.int .u64 (Tm.c x48)))])])),(p1.2.2.2.1++[(T.agg [(T.s (.int .i64 (Tm.id x47))),(T.s (.int .u64 (Tm.c x48)))])]),()))
 else none)))))
 else none)
 else none)))))
 else
  some (.inr (p1.1,p1.2.1,p1.2.2.1,p1.2.2.2.1,()))))
def qxM  (fu:Nat)(a:Fm)(b:Fm):Option Fm :=
 (bif(List.any [a,b] (fun z0=>(z0.1||(!(yn z0)))))then
 some (true,(0:Int),[],(0:Int))
 else
  (itP fu (jm) (a.2.2.1,b.2.2.1,0,[],())).bind fun x50=>
  (Su.sub x50.2.2.2.1 0 x50.2.2.1).bind fun x51=>
  ((((((qD x51).bind fun x52=>
  some (x52,(0:Int))).bind fun x53=>
  some ((jP a.2.1 b.2.1),x53)).bind fun x54=>
  some (false,x54)).bind fun x55=>
  some (a,x55)).bind fun x56=>
  (bif(Nat.ble (x56.1.2.2.1.length+x56.2.2.2.1.length) 549755813888)then
  some (qiC x56.1 x56.2.2.2.1 x56.2.2.1)
 else none)).bind fun x57=>
  (Su.sub x50.2.2.2.1 0 x50.2.2.1).bind fun x58=>
  ((((((qD x58).bind fun x59=>
  some (x59,(0:Int))).bind fun x60=>
  some ((jP a.2.1 b.2.1),x60)).bind fun x61=>
  some (false,x61)).bind fun x62=>
  some (b,x62)).bind fun x63=>
  (bif(Nat.ble (x63.1.2.2.1.length+x63.2.2.2.1.length) 549755813888)then
  some (qiC x63.1 x63.2.2.2.1 x63.2.2.1)
 else none)).bind fun x64=>
  (bif(true&&(Nat.beq x50.2.2.1 x50.2.2.2.1.length))then
  (((((qD x50.2.2.2.1).bind fun x65=>
  some (x65,(qaq x57.toNat x64.toNat:Int))).bind fun x66=>
  some ((jP a.2.1 b.2.1),x66)).bind fun x67=>
  some (false,x67)).bind fun x68=>
  some (yY x68)).bind fun x69=>
  some x69
 else none))
def joC(x y:Int):Int:=bif decide (x=0)then 0 else bif decide (y=0)then 0 else bif !decide (Int.fdiv x (2^63)=Int.fdiv y (2^63))then 0 else bif jV (Int.toNat ((jT y.toNat:Nat):Int)) (Int.toNat ((jT x.toNat:Nat):Int))then y else x
theorem qsF(x:Int):joC x 0=0:=by unfold joC;cases decide (x=0) <;> rfl
theorem qsG:Pick joC:=by
 refine⟨qsF,fun y=>rfl,fun x y=>?_⟩
 unfold joC;cases decide (x=0)with
 | true=>exact .inl rfl
 | false=>
  cases decide (y=0)with
  | true=>exact .inl rfl
  | false=>
   cases decide (Int.fdiv x (2^63)=Int.fdiv y (2^63))with
   | false=>exact .inl rfl
   | true=>
    cases jV (Int.toNat ((jT y.toNat:Nat):Int)) (Int.toNat ((jT x.toNat:Nat):Int))with
    | true=>exact .inr (.inr rfl)
    | false=>exact .inr (.inl rfl)
abbrev JoS:=(List Tm)×((List Tm)×Nat×(List T)×Unit)
def joMk(l m:List Tm)(_:Int)(A:List Tm):JoS:=(l,m,A.length,A.map vT,())
theorem qBS(l m:List Tm)(h:l.length+m.length≤549755813888):∃fu,itP fu jm (l,m,0,[],())=some ([],[],(qm (jnD joC) (l.length+m.length) l m 0).1.length,(qm (jnD joC) (l.length+m.length) l m 0).1.map vT,()):=by
 have hb:∀A:List Tm,A.length+1≤549755813888→Nat.ble (A.length+1) 549755813888=true:=fun A h=>zB h
 refine qz4 (mk:=joMk) (B:=549755813888) ?_ ?_ ?_ ?_ ?_ ?_ (l.length+m.length) l m 0 [] (zE _) (by simpa using h)
 · intro e A
   show jm ([],[],A.length,A.map vT,())=_
   simp only[jm,zN,hp0,zi];rfl
 · intro x l e A hA
   have hb:=hb A hA;show jm (x::l,[],A.length,A.map vT,())=some (.inl (l,[],(A++[(⟨x.id,joC x.c 0⟩:Tm)]).length,(A++[(⟨x.id,joC x.c 0⟩:Tm)]).map vT,()))
   rw[qsF];cases hx:decide (x.c=0) <;> simp only[jm,zw,zN,ZA,hz0,hnz,hp0,qbL,hle,qbM,JD,hx,hb,zn,qH,zL,zK,zf,zi,zj,qbN,qbO]
 · intro y m e A hA
   have hb:=hb A hA;show jm ([],y::m,A.length,A.map vT,())=some (.inl ([],m,(A++[(⟨y.id,0⟩:Tm)]).length,(A++[(⟨y.id,0⟩:Tm)]).map vT,()))
   simp only[jm,zw,zN,ZA,hz0,hnz,hp0,qbL,hle,qbM,JD,hb,zn,qH,zL,zK,zf,zi,zj,qbN,qbO]
 · intro x l y m e A hA h1
   have hb:=hb A hA;show jm (x::l,y::m,A.length,A.map vT,())=some (.inl (l,y::m,(A++[(⟨x.id,joC x.c 0⟩:Tm)]).length,(A++[(⟨x.id,joC x.c 0⟩:Tm)]).map vT,()))
   rw[qsF];cases hx:decide (x.c=0) <;> simp only[jm,zw,zN,ZA,hz0,hnz,hp0,qbL,hle,qbM,JD,h1,hx,hb,zn,qH,zL,zK,zf,zi,zj,qbN,qbO]
 · intro x l y m e A hA h1 h2
   have hb:=hb A hA;show jm (x::l,y::m,A.length,A.map vT,())=some (.inl (x::l,m,(A++[(⟨y.id,0⟩:Tm)]).length,(A++[(⟨y.id,0⟩:Tm)]).map vT,()))
   simp only[jm,zw,zN,ZA,hz0,hnz,hp0,qbL,hle,qbM,JD,h1,h2,hb,zn,qH,zL,zK,zf,zi,zj,qbN,qbO]
 · intro x l y m e A hA h1 h2
   have hb:=hb A hA;show jm (x::l,y::m,A.length,A.map vT,())=some (.inl (l,m,(A++[(⟨x.id,joC x.c y.c⟩:Tm)]).length,(A++[(⟨x.id,joC x.c y.c⟩:Tm)]).map vT,()))
   have fin:∀c:Int,joC x.c y.c=c→jm (x::l,y::m,A.length,A.map vT,())=some (.inl (l,m,(A++[(⟨x.id,c⟩:Tm)]).length,(A++[(⟨x.id,c⟩:Tm)]).map vT,())):=by
    intro c hc;unfold joC at hc;cases hx:decide (x.c=0)with
    | true=>
     rw[hx]at hc;subst hc;simp only[jm,zw,zN,ZA,hz0,hnz,hp0,qbL,hle,qbM,JD,h1,h2,hx,hb,zn,qH,zL,zK,zf,zi,zj,qbN,qbO]
    | false=>
     cases hy:decide (y.c=0)with
     | true=>
      rw[hx,hy]at hc;subst hc;simp only[jm,zw,zN,ZA,hz0,hnz,hp0,qbL,hle,qbM,JD,h1,h2,hx,hy,hb,zn,qH,zL,zK,zf,zi,zj,qbN,qbO]
     | false=>
      cases hs:decide (Int.fdiv x.c (2^63)=Int.fdiv y.c (2^63))with
      | false=>
       rw[hx,hy,hs]at hc;subst hc;simp only[jm,zw,zN,ZA,hz0,hnz,hp0,qbL,hle,qbM,JD,h1,h2,hx,hy,hs,hb,zn,qH,zL,zK,zX,zf,zi,zj,qbN,qbO]
      | true=>
       rw[hx,hy,hs]at hc;simp only[Kf,zi]at hc;cases hl:jV (Int.toNat ((jT (Int.toNat y.c):Nat):Int)) (Int.toNat ((jT (Int.toNat x.c):Nat):Int))with
       | true=>
        rw[hl]at hc;subst hc;simp only[jm,zw,zN,ZA,hz0,hnz,hp0,qbL,hle,qbM,JD,h1,h2,hx,hy,hs,hl,hb,zn,qH,zL,zK,Kf,zf,zi,zj,qbN,qbO]
       | false=>
        rw[hl]at hc;subst hc;simp only[jm,zw,zN,ZA,hz0,hnz,hp0,qbL,hle,qbM,JD,h1,h2,hx,hy,hs,hl,hb,zn,qH,zL,zK,Kf,zf,zi,zj,qbN,qbO]
   exact fin _ rfl
theorem qBT(f:Int→Int→Int→Int×Int):∀(n:Nat) (l m:List Tm) (e:Int),(qm f n l m e).1.length≤n:=by
 intro n;induction n with
 | zero=>intro l m e;exact Ve _
 | succ n ih=>
  have one:∀(id:Int) (r:Int×Int) (l' m':List Tm),(Zz id r (qm f n l' m')).1.length≤n+1:=fun id r l' m'=>by
   show(qm f n l' m' r.2).1.length+1≤n+1
   have:=ih l' m' r.2;omega
  intro l m e
  match l,m with
  | [],[]=>exact Ve _
  | a::l,[]=>exact one _ _ _ _
  | [],b::m=>exact one _ _ _ _
  | a::l,b::m=>
   simp only[qm];cases decide (a.id<b.id)with
   | true=>exact one _ _ _ _
   | false=>
    cases decide (b.id<a.id)with
    | true=>exact one _ _ _ _
    | false=>exact one _ _ _ _
theorem subA(L:List Tm):Su.sub (L.map vT) 0 L.length=some (L.map vT):=by
 rw[subT _ _ (zE _),WI]
def qfa(p:Fm×Fm):Option Fm:=bif Nat.ble (p.1.2.2.1.length+p.2.2.2.1.length) 1000000 then some (qbQ joC p.1 p.2)else none
theorem qxN(p:Fm×Fm)(y:Fm)(hg:(dc jC (d1 jC)).good p)(h:qfa p=some y):∃n,qxM n p.1 p.2=some y:=by
 obtain⟨a,b⟩:=p;obtain⟨h1,h2⟩:=qj h;have:=soi h2;subst this
 have hl:a.2.2.1.length+b.2.2.1.length≤1000000:=zr h1
 obtain⟨n,hn⟩:=qBS a.2.2.1 b.2.2.1 (by omega)
 refine⟨n,?_⟩
 show qxM n a b=some (qbQ joC a b)
 have ha:(List.any [a,b] fun z0=>(z0.1||(!(yn z0)))) = !(okF a&&okF b):=by
  unfold okF;show((a.1||!yn a)||((b.1||!yn b)||false))=_
  cases(a.1||!yn a) <;> cases(b.1||!yn b) <;> rfl
 unfold qxM qbQ;cases ho:okF a&&okF b with
 | false=>exact jp (ha.trans (by rw[ho];rfl))
 | true=>
  refine(QG (ha.trans (by rw[ho];rfl))).trans (obs hn ?_)
  have hR:(Y4 joC a b).length≤1000000:=KV (qBT _ _ _ _ _) hl
  have e:(qm (jnD joC) (a.2.2.1.length+b.2.2.1.length) a.2.2.1 b.2.2.1 0).1=Y4 joC a b:=rfl
  rw[e];refine obs (subA _) (obs (t:=qiC a (Y4 joC a b) (jP a.2.1 b.2.1)) (obs (obs (obs (obs (obs (qL _) rfl) rfl) rfl) rfl) (jp (zB (by show a.2.2.1.length+(Y4 joC a b).length≤_;omega)))) ?_)
  refine obs (subA _) (obs (t:=qiC b (Y4 joC a b) (jP a.2.1 b.2.1)) (obs (obs (obs (obs (obs (qL _) rfl) rfl) rfl) rfl) (jp (zB (by show b.2.2.1.length+(Y4 joC a b).length≤_;omega)))) ?_)
  refine(jp (by rw[zn];simp)).trans ?_
  exact obs (obs (obs (obs (obs (qL _) rfl) rfl) rfl) rfl) rfl
end
end Su
end
section
namespace Su
section
variable {α:Type}
def Srt(key:α→Int)(l:List α):Prop:=l.Pairwise fun x y=>key x≤key y
def Stb(key:α→Int)(l l':List α):Prop:=∀v:Int,l'.filter (fun x=>decide (key x=v))=l.filter fun x=>decide (key x=v)
variable {key:α→Int}
theorem Stb.refl(l:List α):Stb key l l:=fun _=>rfl
theorem Stb.trans{l m n:List α}(h:Stb key l m)(h':Stb key m n):Stb key l n:=fun v=>(h' v).trans (h v)
theorem Stb.symm{l m:List α}(h:Stb key l m):Stb key m l:=fun v=>(h v).symm
theorem Stb.app{l l' m m':List α}(h:Stb key l l')(h':Stb key m m'):Stb key (l++m) (l'++m'):=fun v=>by
 rw[Vk,Vk,h v,h' v]
theorem Stb.mem{l l':List α}(h:Stb key l l'){x:α}:x∈l'↔x∈l:=by
 have hx:=h (key x)
 have a:∀m:List α,x∈m↔x∈m.filter fun y=>decide (key y=key x):=fun m=>by simp[Vx]
 rw[a l',a l,hx]
theorem Stb.swap{A B:List α}(h:∀x∈A,∀y∈B,key y≠key x):Stb key (A++B) (B++A):=fun v=>by
 rw[Vk,Vk];by_cases ha:A.filter (fun x=>decide (key x=v))=[]
 · rw[ha,zD,Ka]
 · obtain⟨x,hx⟩:=List.exists_mem_of_ne_nil _ ha
   rw[Vx]at hx;have hv:key x=v:=Ku hx.2
   have hb:B.filter (fun x=>decide (key x=v))=[]:=List.filter_eq_nil_iff.2 fun y hy hd=>h x hx.1 y hy ((Ku hd).trans hv.symm)
   rw[hb,zD,Ka]
theorem Stb.perm[DecidableEq α]{l l':List α}(h:Stb key l l'):l'.Perm l:=by
 rw[List.perm_iff_count];intro a;have hp:decide (key a=key a)=true:=zd rfl
 have c:∀m:List α,m.count a=(m.filter fun y=>decide (key y=key a)).count a:=fun m=>(List.count_filter (p:=fun y=>decide (key y=key a)) hp).symm
 rw[c l',c l,h (key a)]
theorem Stb.len{l l':List α}(h:Stb key l l'):l'.length=l.length:=by
 have:DecidableEq α:=Classical.typeDecidableEq α
 exact h.perm.length_eq
theorem Srt.nil:Srt key ([]:List α):=List.Pairwise.nil
theorem Srt.one(x:α):Srt key [x]:=List.pairwise_singleton _ _
theorem Srt.app{l m:List α}(h:Srt key l)(h':Srt key m)(hh:∀x∈l,∀y∈m,key x≤key y):Srt key (l++m):=List.pairwise_append.2 ⟨h,h',hh⟩
theorem Srt.left{l m:List α}(h:Srt key (l++m)):Srt key l:=(List.pairwise_append.1 h).1
theorem Srt.right{l m:List α}(h:Srt key (l++m)):Srt key m:=(List.pairwise_append.1 h).2.1
theorem Srt.both{l m:List α}(h:Srt key (l++m)):∀x∈l,∀y∈m,key x≤key y:=(List.pairwise_append.1 h).2.2
theorem Stb.cut{x:α}{r r':List α}(h:Stb key (x::r) (x::r')):Stb key r r':=fun v=>by
 have:=h v
 rw[KG,KG]at this;cases hd:decide (key x=v)with
 | true=>rw[hd]at this;simpa using this
 | false=>rw[hd]at this;simpa using this
theorem qnP:∀ {l l':List α},Srt key l→Srt key l'→Stb key l l'→l'=l
 | [],l',_,_,h=>by
  have:=h.len
  exact Kj.1 (by simpa using this)
 | x::r,l',hl,hl',h=>by
  match l',hl',h with
  | [],_,h=>have:=h.len;simp at this
  | y::r',hl',h=>
   have hx:x∈y::r':=h.mem.2 (zq ..)
   have hy:y∈x::r:=h.mem.1 (zq ..)
   have k1:key x≤key y:=by
    rcases zA.1 hy with e | e
    · rw[e];exact Wp _
    · exact(zH.1 hl).1 y e
   have k2:key y≤key x:=by
    rcases zA.1 hx with e | e
    · rw[e];exact Wp _
    · exact(zH.1 hl').1 x e
   have hk:key y=key x:=by omega
   have:=h (key x)
   rw[KG,KG,zd hk,zd rfl]at this;simp only[if_true]at this;have e:y=x:=(List.cons.inj this).1
   subst e;rw[qnP (zH.1 hl).2 (zH.1 hl').2 h.cut]
theorem qcV{A1 A2 B1 B2 C1 C2:List α}(hA:Srt key (A1++A2))(hB:Srt key (B1++B2))(h1:∀y∈B1,∀x∈A2,key y<key x)(h2:∀x∈A1,∀y∈B2,key x≤key y)
 (s1:Srt key C1) (t1:Stb key (A1++B1) C1) (s2:Srt key C2) (t2:Stb key (A2++B2) C2):Srt key (C1++C2)∧Stb key (A1++A2++(B1++B2)) (C1++C2):=by
 constructor
 · refine s1.app s2 fun x hx y hy=>?_
   rcases zF.1 (t1.mem.1 hx)with a | b
   · rcases zF.1 (t2.mem.1 hy)with c | d
     · exact hA.both x a y c
     · exact h2 x a y d
   · rcases zF.1 (t2.mem.1 hy)with c | d
     · exact Int.le_of_lt (h1 x b y c)
     · exact hB.both x b y d
 · have hm:Stb key (A2++B1) (B1++A2):=Stb.swap fun x hx y hy=>by have:=h1 y hy x hx;omega
   have e1:A1++A2++(B1++B2)=A1++((A2++B1)++B2):=by simp
   have e2:A1++((B1++A2)++B2)=(A1++B1)++(A2++B2):=by simp
   rw[e1];refine((Stb.refl A1).app (hm.app (Stb.refl B2))).trans ?_
   rw[e2];exact t1.app t2
end
end Su
end
section
namespace Su
open Go Fly
noncomputable section
def jj{S R:Type}(K:Nat)(F:S→Option (S ⊕ R))(s:S)(r:R):Prop:=∀m,K≤m→itP m F s=some r
theorem jj.next{S R:Type}{K:Nat}{F:S→Option (S ⊕ R)}{s s':S}{r:R}(h:F s=some (.inl s'))(hn:jj K F s' r):jj (K+1) F s r:=fun m hm=>by
 obtain⟨j,rfl⟩:∃j,m=j+1:=⟨m-1,by omega⟩
 rw[qu,h];exact hn j (by omega)
theorem jj.stop{S R:Type}{K:Nat}{F:S→Option (S ⊕ R)}{s:S}{r:R}(h:F s=some (.inr r)):jj (K+1) F s r:=fun m hm=>by
 obtain⟨j,rfl⟩:∃j,m=j+1:=⟨m-1,by omega⟩
 rw[qu,h];rfl
theorem jj.up{S R:Type}{K K':Nat}{F:S→Option (S ⊕ R)}{s:S}{r:R}(h:jj K F s r)(hk:K≤K'):jj K' F s r:=fun m hm=>h m (by omega)
def qpx(n:Nat)(f:Nat→Bool):Bool:=(List.range n).all f
theorem qkn{n:Nat}{f:Nat→Bool}:qpx n f=true↔∀i,i<n→f i=true:=by
 unfold qpx;simp[KA,List.mem_range]
theorem qsH{n:Nat}{f:Nat→Bool}:qpx n f=false↔∃i,i<n∧f i=false:=by
 rw[← Bool.not_eq_true,qkn];constructor
 · intro h
   by_cases hn:∃i,i<n∧f i=false
   · exact hn
   · exact absurd (fun i hi=>by cases hf:f i with | true=>rfl | false=>exact absurd ⟨i,hi,hf⟩ hn) h
 · rintro⟨i,hi,hf⟩ h
   rw[h i hi]at hf;cases hf
theorem qgM{S R:Type}{F:S→Option (S ⊕ R)}{mk:Nat→S}{n:Nat}{ok:Nat→Bool}{r0 r1:R}
 (h1:∀i,i<n→ok i=true→F (mk i)=some (.inl (mk (i+1)))) (h2:∀i,i<n→ok i=false→F (mk i)=some (.inr r1)) (h0:F (mk n)=some (.inr r0)) :
 ∀(j i:Nat),i+j=n→jj (j+1) F (mk i) (bif(List.range' i j).all ok then r0 else r1)
 | 0,i,h=>by
  have:i=n:=by omega
  subst this;exact jj.stop h0
 | j+1,i,h=>by
  rw[List.range'_succ,VZ];cases hk:ok i with
  | true=>exact jj.next (h1 i (by omega) hk) (by simpa using qgM h1 h2 h0 j (i+1) (by omega))
  | false=>exact jj.stop (h2 i (by omega) hk)
theorem qsI{S R:Type}{F:S→Option (S ⊕ R)}{mk:Nat→S}{n:Nat}{ok:Nat→Bool}{r0 r1:R}
 (h1:∀i,i<n→ok i=true→F (mk i)=some (.inl (mk (i+1)))) (h2:∀i,i<n→ok i=false→F (mk i)=some (.inr r1)) (h0:F (mk n)=some (.inr r0)) :
 jj (n+1) F (mk 0) (bif qpx n ok then r0 else r1):=by
 have:=qgM h1 h2 h0 n 0 (by omega)
 rwa [← List.range_eq_range']at this
theorem ixl{α:Type}{l:List α}{i:Nat}(h:i<l.length):idx l (i:Int)=some l[i]:=by
 rw[jL,zG h]
theorem w1{i n:Nat}(h:i<n)(hn:n≤maxLen):IntKind.i64.wrap ((i:Int)+1)=((i+1:Nat):Int):=by
 rw[jc]at hn;rw[w64 (by omega) (by omega)];rfl
end
end Su
end
section
namespace Su
open Go Fly
noncomputable section
structure Mix (N:Nat) (L L':List Tm):Prop where
 len:L'.length=L.length
 mix:(L'.take N).Perm (L.take N)
theorem Mix.refl(N:Nat)(L:List Tm):Mix N L L:=⟨rfl,Ko _⟩
theorem Mix.trans{N:Nat}{L M K:List Tm}(h:Mix N L M)(h':Mix N M K):Mix N L K:=⟨h'.len.trans h.len,h'.mix.trans h.mix⟩
theorem qbR:∀ {l:List Tm} {lo:Int},ja lo l=true→∀t∈l,lo<t.id
 | [],_,_,t,ht=>by cases ht
 | a::l,lo,h,t,ht=>by
  unfold ja at h;simp only[zl,Ky,zy]at h;rcases zA.1 ht with rfl | ht
  · omega
  · have:=qbR h.2.2.2 t ht
    omega
theorem qfb:∀ {l:List Tm} {lo:Int},ja lo l=true→l.Nodup
 | [],_,_=>V8
 | a::l,lo,h=>by
  unfold ja at h;simp only[zl,Ky,zy]at h;exact KQ.2 ⟨fun hm=>by have:=qbR h.2.2.2 a hm;omega,qfb h.2.2.2⟩
theorem qiD{a:Fm}(h:okF a=true):ja (-1) a.2.2.1=true:=by
 unfold okF at h;simp only[Ky,Bool.or_eq_false_iff,Bool.not_eq_false']at h;obtain⟨h1,h2⟩:=h;rw[qbJ,h1,zi]at h2;simp only[zl]at h2;exact h2.1
def inK(l:List Tm)(t:Tm):Bool:=l.any fun u=>decide (t.id=u.id)&&decide (t.c=u.c)
theorem JE{l:List Tm}{t:Tm}:inK l t=true↔t∈l:=by
 unfold inK;rw[List.any_eq_true];constructor
 · rintro⟨u,hu,h⟩
   simp only[zl,zy]at h;obtain⟨i,c⟩:=t;obtain⟨i',c'⟩:=u;obtain⟨h1,h2⟩:=h;have h1:i=i':=h1
   have h2:c=c':=h2
   subst h1 h2;exact hu
 · intro h;exact⟨t,h,by simp⟩
theorem kept{A l r:List Tm}(hn:A.Nodup)(hp:(l++r).Perm A):l.Perm (A.filter (inK l)):=by
 have hd:(l++r).Nodup:=hp.nodup_iff.2 hn
 have h1:=hp.filter (inK l)
 rw[Vk]at h1;have h2:l.filter (inK l)=l:=List.filter_eq_self.2 fun t ht=>JE.2 ht
 have h3:r.filter (inK l)=[]:=List.filter_eq_nil_iff.2 fun t ht h=>(Vr.1 hd).2.2 t (JE.1 h) t ht rfl
 rw[h2,h3,zD]at h1;exact h1
end
end Su
end
section
namespace Su
open Go Fly
noncomputable section
def qh(t:Tm):Int:=-((bK t.c.toNat:Nat):Int)
theorem YI{c:Int}(h:fI c=true):jT c.toNat=bK c.toNat:=by
 unfold fI at h;have hn:qB (bK c.toNat)=false:=qE.2 (by have:=qT.1 h;omega)
 unfold jT;rw[hn];rfl
theorem ltA{x y:Tm}(fx:fI x.c=true)(fy:fI y.c=true):decide (jZ (Int.toNat ((jT (Int.toNat y.c):Nat):Int)) (Int.toNat ((jT (Int.toNat x.c):Nat):Int))<0)=decide (qh x<qh y):=by
 rw[zm,zm,YI fx,YI fy];have hn:∀c:Int,fI c=true→qB (bK (bK c.toNat))=false:=fun c h=>by
  unfold fI at h;rw[qke];exact qE.2 (by have:=qT.1 h;omega)
 have hk:∀c:Int,yf (bK c.toNat)=((bK c.toNat:Nat):Int):=fun c=>by unfold yf;rw[qzZ,qke];rfl
 unfold jZ;rw[hn _ fx,hn _ fy,hk,hk];unfold qdC qh;simp only[VK,zi];by_cases h:((bK y.c.toNat:Nat):Int)<((bK x.c.toNat:Nat):Int)
 · rw[zd h,zf,zd (by omega),zd (by omega)]
 · rw[zh h,zi]
   by_cases h':((bK x.c.toNat:Nat):Int)<((bK y.c.toNat:Nat):Int)
   · rw[zd h',zf,zh (by omega),zh (by omega)]
   · rw[zh h',zi,zh (by omega),zh (by omega)]
def ssK{α:Type}(key:α→Int)(l:List α):List α:=l.mergeSort fun x y=>decide (key x≤key y)
theorem j8{α:Type}(key:α→Int)(l:List α):(ssK key l).Perm l:=List.mergeSort_perm l _
theorem QT{α:Type}(key:α→Int)(l:List α):Srt key (ssK key l):=by
 have:=List.pairwise_mergeSort (le:=fun x y:α=>decide (key x≤key y)) (fun a b c h1 h2=>by simp only[zy]at *;omega) (fun a b=>by simp only[Vw,zy];omega) l
 exact this.imp fun h=>Ku h
theorem YJ{α:Type}(key:α→Int)(l:List α):Stb key l (ssK key l):=fun v=>by
 have hp:=j8 key l;have hs:(l.filter fun x=>decide (key x=v)).Sublist (ssK key l):=by
  refine List.sublist_mergeSort (fun a b c h1 h2=>by simp only[zy]at *;omega) (fun a b=>by simp only[Vw,zy];omega) ?_ List.filter_sublist
  refine List.pairwise_of_forall_mem_list fun a ha b hb=>?_
  have h1:=Ku (Vx.1 ha).2
  have h2:=Ku (Vx.1 hb).2
  simp only[zy];omega
 have h2:=hs.filter fun x=>decide (key x=v)
 rw[List.filter_filter]at h2;simp only[zW]at h2;exact(h2.eq_of_length (hp.filter _).length_eq.symm).symm
theorem ZE{α:Type}{key:α→Int}{l l':List α}(h:Srt key l')(h':Stb key l l'):l'=ssK key l:=qnP (QT key l) h ((YJ key l).symm.trans h')
theorem jM{α:Type}(key:α→Int)(l:List α):(ssK key l).length=l.length:=(j8 key l).length_eq
theorem QB{α:Type}{key:α→Int}{l:List α}(h:Srt key l):ssK key l=l:=(ZE h (Stb.refl l)).symm
def ndI(L:List Tm):Bool:=decide ((L.map Tm.id).Nodup)
def soS(L:List Tm)(_:Unit):Option (List Tm):=bif ndI L&&Nat.ble L.length 1000000 then some (ssK Tm.id L)else none
theorem qsJ{L L':List Tm}(hn:(L.map Tm.id).Nodup)(hp:L'.Perm L):Stb Tm.id L L':=fun v=>by
 have h1:=hp.filter fun x=>decide (x.id=v)
 have h2:(L.filter fun x=>decide (x.id=v)).length≤1:=by
  have hs:((L.filter fun x=>decide (x.id=v)).map Tm.id).Nodup:=hn.sublist (List.filter_sublist.map _)
  generalize hf:(L.filter fun x=>decide (x.id=v))=F at *
  match F,hf,hs with
  | [],_,_=>exact Ve _
  | [x],_,_=>exact zE _
  | x::y::r,hf,hs=>
   have m1:x∈L.filter fun x=>decide (x.id=v):=by rw[hf];exact zq ..
   have m2:y∈L.filter fun x=>decide (x.id=v):=by rw[hf];exact zo _ (zq ..)
   have e1:x.id=v:=Ku (Vx.1 m1).2
   have e2:y.id=v:=Ku (Vx.1 m2).2
   rw[KB,KB,KQ]at hs;exact absurd (by rw[e1,e2];exact zq ..) hs.1
 generalize (L.filter fun x=>decide (x.id=v))=F at *
 generalize (L'.filter fun x=>decide (x.id=v))=F' at *
 match F,h1,h2 with
 | [],h1,_=>exact h1.eq_nil
 | [x],h1,_=>exact List.perm_singleton.1 h1
end
section
variable {α:Type}
theorem qsK{L:List α}{a b:Nat}(h:a≤b)(hb:b≤L.length):∃P X S,L=P++X++S∧P.length=a∧X.length=b-a:=by
 refine⟨L.take a,(L.drop a).take (b-a),L.drop b,?_,?_,?_⟩
 · have:L.drop b=(L.drop a).drop (b-a):=by rw[Wm];congr 1;omega
   rw[this,zM,Kv,Kv]
 · rw[zV];omega
 · rw[zV,VC];omega
def swp(L:List α)(p q:Nat)(x y:α):List α:=(L.set p y).set q x
theorem qsL(A B C:List α)(x y:α):swp (A++x::(B++y::C)) A.length (A.length+1+B.length) x y=A++y::(B++x::C):=by
 unfold swp;have e1:(A++x::(B++y::C)).set A.length y=A++y::(B++y::C):=by simp
 rw[e1];have e2:A++y::(B++y::C)=(A++y::B)++y::C:=by simp
 have e3:A.length+1+B.length=(A++y::B).length:=by simp;omega
 rw[e2,e3];simp
end
theorem rkG{K:List Tm}{j:Nat}{t:Tm}(h:K[j]?=some t):(K.map vT)[0+Int.toNat (j:Int)]?=some (vT t):=by
 rw[Kk,zm,KM,h];rfl
theorem qfR(t:Tm):(T.cells (vT t))[0]?=some (T.s (.int .i64 t.id)):=rfl
theorem qfS(t:Tm):(T.cells (vT t))[1]?=some (T.s (.int .u64 t.c)):=rfl
theorem qfT(n:Int):asI .i64 (.t (T.s (.int .i64 n)))=some n:=by simp[asI]
theorem qfU(n:Int):asI .u64 (.t (T.s (.int .u64 n)))=some n:=by simp[asI]
theorem rkS(K:List Tm)(i j:Nat)(x y:Tm):List.set (List.set (K.map vT) (0+Int.toNat (i:Int)) (T.agg [T.s (.int .i64 y.id),T.s (.int .u64 y.c)])) (0+Int.toNat (j:Int)) (T.agg [T.s (.int .i64 x.id),T.s (.int .u64 x.c)])=(swp K i j x y).map vT:=by
 unfold swp;rw[List.map_set,List.map_set];simp only[Kk,zm];rfl
theorem rkU{K:List Tm}{i j:Nat}(h:j<K.length)(v:T):∃z,(List.set (K.map vT) (0+Int.toNat (i:Int)) v)[0+Int.toNat (j:Int)]?=some z :=
 ⟨_,zG (by simp only[Kk,zm,List.length_set,zn];omega)⟩
theorem rkW{n:Int}(h0 : -9223372036854775808≤n)(h:n<9223372036854775808):IntKind.i64.wrap n=n:=Jx h0 (by omega)
theorem rkM(K:List Tm):(K.map vT).length=K.length:=zn vT
end Su
end
