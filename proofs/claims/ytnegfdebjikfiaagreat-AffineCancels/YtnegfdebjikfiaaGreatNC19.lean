/-
  What functions of the program compute, in plain Lean, and that the evaluator finds it.
-/
import Derived.Test.YtnegfdebjikfiaaGreatSuSd
import Derived.Test.YtnegfdebjikfiaaGreatNC14
section
namespace Su
open Go Fly
set_option linter.unusedVariables false
noncomputable section
def aSum_l1 : ((List Su.Tm) × ((List Su.Tm) × (Nat × (Int × ((List Su.T) × Unit))))) → Option (((List Su.Tm) × ((List Su.Tm) × (Nat × (Int × ((List Su.T) × Unit))))) ⊕ ((List Su.Tm) × ((List Su.Tm) × (Nat × (Int × ((List Su.T) × Unit)))))) := fun p1 => (bif (decide ((0 < (((List.length p1.1) : Nat) : Int)))) then
  (bif (decide (((((List.length p1.2.1) : Nat) : Int) = 0))) then
  ((Su.idx p1.1 0)).bind fun x2 =>
  ((Su.idx p1.1 0)).bind fun x3 =>
  (bif (true && ((true && (decide ((1 ≤ (((List.length p1.1) : Nat) : Int))))) && (decide (((((List.length p1.1) : Nat) : Int) ≤ (((List.length p1.1) : Nat) : Int)))))) then
  (bif (decide (((Su.Tm.c x3) = 0))) then
  (bif ((true && (Nat.beq p1.2.2.1 (List.length p1.2.2.2.2.1))) && (Nat.ble ((List.length p1.2.2.2.2.1) + (List.length [(T.agg [(T.s (.int .i64 (Su.Tm.id x2))), (T.s (.int .u64 0))])])) 549755813888)) then
  some (.inl ((List.take (Int.toNat ((((List.length p1.1) : Nat) : Int) - 1)) (List.drop 1 p1.1)), (p1.2.1, ((List.length (p1.2.2.2.2.1 ++ [(T.agg [(T.s (.int .i64 (Su.Tm.id x2))), (T.s (.int .u64 0))])])), (p1.2.2.2.1, ((p1.2.2.2.2.1 ++ [(T.agg [(T.s (.int .i64 (Su.Tm.id x2))), (T.s (.int .u64 0))])]), ()))))))
 else
  none)
 else
  (bif ((true && (Nat.beq p1.2.2.1 (List.length p1.2.2.2.2.1))) && (Nat.ble ((List.length p1.2.2.2.2.1) + (List.length [(T.agg [(T.s (.int .i64 (Su.Tm.id x2))), (T.s (.int .u64 (Su.Tm.c x3)))])])) 549755813888)) then
  some (.inl ((List.take (Int.toNat ((((List.length p1.1) : Nat) : Int) - 1)) (List.drop 1 p1.1)), (p1.2.1, ((List.length (p1.2.2.2.2.1 ++ [(T.agg [(T.s (.int .i64 (Su.Tm.id x2))), (T.s (.int .u64 (Su.Tm.c x3)))])])), (p1.2.2.2.1, ((p1.2.2.2.2.1 ++ [(T.agg [(T.s (.int .i64 (Su.Tm.id x2))), (T.s (.int .u64 (Su.Tm.c x3)))])]), ()))))))
 else
  none))
 else
  none)
 else
  (bif (decide ((0 < (((List.length p1.1) : Nat) : Int)))) then
  ((Su.idx p1.1 0)).bind fun x4 =>
  ((Su.idx p1.2.1 0)).bind fun x5 =>
  (bif (decide (((Su.Tm.id x4) < (Su.Tm.id x5)))) then
  ((Su.idx p1.1 0)).bind fun x6 =>
  ((Su.idx p1.1 0)).bind fun x7 =>
  (bif (true && ((true && (decide ((1 ≤ (((List.length p1.1) : Nat) : Int))))) && (decide (((((List.length p1.1) : Nat) : Int) ≤ (((List.length p1.1) : Nat) : Int)))))) then
  (bif (decide (((Su.Tm.c x7) = 0))) then
  (bif ((true && (Nat.beq p1.2.2.1 (List.length p1.2.2.2.2.1))) && (Nat.ble ((List.length p1.2.2.2.2.1) + (List.length [(T.agg [(T.s (.int .i64 (Su.Tm.id x6))), (T.s (.int .u64 0))])])) 549755813888)) then
  some (.inl ((List.take (Int.toNat ((((List.length p1.1) : Nat) : Int) - 1)) (List.drop 1 p1.1)), (p1.2.1, ((List.length (p1.2.2.2.2.1 ++ [(T.agg [(T.s (.int .i64 (Su.Tm.id x6))), (T.s (.int .u64 0))])])), (p1.2.2.2.1, ((p1.2.2.2.2.1 ++ [(T.agg [(T.s (.int .i64 (Su.Tm.id x6))), (T.s (.int .u64 0))])]), ()))))))
 else
  none)
 else
  (bif ((true && (Nat.beq p1.2.2.1 (List.length p1.2.2.2.2.1))) && (Nat.ble ((List.length p1.2.2.2.2.1) + (List.length [(T.agg [(T.s (.int .i64 (Su.Tm.id x6))), (T.s (.int .u64 (Su.Tm.c x7)))])])) 549755813888)) then
  some (.inl ((List.take (Int.toNat ((((List.length p1.1) : Nat) : Int) - 1)) (List.drop 1 p1.1)), (p1.2.1, ((List.length (p1.2.2.2.2.1 ++ [(T.agg [(T.s (.int .i64 (Su.Tm.id x6))), (T.s (.int .u64 (Su.Tm.c x7)))])])), (p1.2.2.2.1, ((p1.2.2.2.2.1 ++ [(T.agg [(T.s (.int .i64 (Su.Tm.id x6))), (T.s (.int .u64 (Su.Tm.c x7)))])]), ()))))))
 else
  none))
 else
  none)
 else
  (bif (decide (((((List.length p1.1) : Nat) : Int) = 0))) then
  ((Su.idx p1.2.1 0)).bind fun x8 =>
  ((Su.idx p1.2.1 0)).bind fun x9 =>
  (bif (true && ((true && (decide ((1 ≤ (((List.length p1.2.1) : Nat) : Int))))) && (decide (((((List.length p1.2.1) : Nat) : Int) ≤ (((List.length p1.2.1) : Nat) : Int)))))) then
  (bif ((true && (Nat.beq p1.2.2.1 (List.length p1.2.2.2.2.1))) && (Nat.ble ((List.length p1.2.2.2.2.1) + (List.length [(T.agg [(T.s (.int .i64 (Su.Tm.id x8))), (T.s (.int .u64 (Su.Tm.c x9)))])])) 549755813888)) then
  some (.inl (p1.1, ((List.take (Int.toNat ((((List.length p1.2.1) : Nat) : Int) - 1)) (List.drop 1 p1.2.1)), ((List.length (p1.2.2.2.2.1 ++ [(T.agg [(T.s (.int .i64 (Su.Tm.id x8))), (T.s (.int .u64 (Su.Tm.c x9)))])])), (p1.2.2.2.1, ((p1.2.2.2.2.1 ++ [(T.agg [(T.s (.int .i64 (Su.Tm.id x8))), (T.s (.int .u64 (Su.Tm.c x9)))])]), ()))))))
 else
  none)
 else
  none)
 else
  ((Su.idx p1.2.1 0)).bind fun x10 =>
  ((Su.idx p1.1 0)).bind fun x11 =>
  (bif (decide (((Su.Tm.id x10) < (Su.Tm.id x11)))) then
  ((Su.idx p1.2.1 0)).bind fun x12 =>
  ((Su.idx p1.2.1 0)).bind fun x13 =>
  (bif (true && ((true && (decide ((1 ≤ (((List.length p1.2.1) : Nat) : Int))))) && (decide (((((List.length p1.2.1) : Nat) : Int) ≤ (((List.length p1.2.1) : Nat) : Int)))))) then
  (bif ((true && (Nat.beq p1.2.2.1 (List.length p1.2.2.2.2.1))) && (Nat.ble ((List.length p1.2.2.2.2.1) + (List.length [(T.agg [(T.s (.int .i64 (Su.Tm.id x12))), (T.s (.int .u64 (Su.Tm.c x13)))])])) 549755813888)) then
  some (.inl (p1.1, ((List.take (Int.toNat ((((List.length p1.2.1) : Nat) : Int) - 1)) (List.drop 1 p1.2.1)), ((List.length (p1.2.2.2.2.1 ++ [(T.agg [(T.s (.int .i64 (Su.Tm.id x12))), (T.s (.int .u64 (Su.Tm.c x13)))])])), (p1.2.2.2.1, ((p1.2.2.2.2.1 ++ [(T.agg [(T.s (.int .i64 (Su.Tm.id x12))), (T.s (.int .u64 (Su.Tm.c x13)))])]), ()))))))
 else
  none)
 else
  none)
 else
  ((Su.idx p1.1 0)).bind fun x14 =>
  ((Su.idx p1.1 0)).bind fun x15 =>
  ((Su.idx p1.2.1 0)).bind fun x16 =>
  (bif (true && ((true && (decide ((1 ≤ (((List.length p1.1) : Nat) : Int))))) && (decide (((((List.length p1.1) : Nat) : Int) ≤ (((List.length p1.1) : Nat) : Int)))))) then
  (bif (true && ((true && (decide ((1 ≤ (((List.length p1.2.1) : Nat) : Int))))) && (decide (((((List.length p1.2.1) : Nat) : Int) ≤ (((List.length p1.2.1) : Nat) : Int)))))) then
  (bif (decide (((Su.Tm.c x15) = 0))) then
  (bif ((true && (Nat.beq p1.2.2.1 (List.length p1.2.2.2.2.1))) && (Nat.ble ((List.length p1.2.2.2.2.1) + (List.length [(T.agg [(T.s (.int .i64 (Su.Tm.id x14))), (T.s (.int .u64 (Su.Tm.c x16)))])])) 549755813888)) then
  some (.inl ((List.take (Int.toNat ((((List.length p1.1) : Nat) : Int) - 1)) (List.drop 1 p1.1)), ((List.take (Int.toNat ((((List.length p1.2.1) : Nat) : Int) - 1)) (List.drop 1 p1.2.1)), ((List.length (p1.2.2.2.2.1 ++ [(T.agg [(T.s (.int .i64 (Su.Tm.id x14))), (T.s (.int .u64 (Su.Tm.c x16)))])])), (p1.2.2.2.1, ((p1.2.2.2.2.1 ++ [(T.agg [(T.s (.int .i64 (Su.Tm.id x14))), (T.s (.int .u64 (Su.Tm.c x16)))])]), ()))))))
 else
  none)
 else
  (bif (decide (((Su.Tm.c x16) = 0))) then
  (bif ((true && (Nat.beq p1.2.2.1 (List.length p1.2.2.2.2.1))) && (Nat.ble ((List.length p1.2.2.2.2.1) + (List.length [(T.agg [(T.s (.int .i64 (Su.Tm.id x14))), (T.s (.int .u64 (Su.Tm.c x15)))])])) 549755813888)) then
  some (.inl ((List.take (Int.toNat ((((List.length p1.1) : Nat) : Int) - 1)) (List.drop 1 p1.1)), ((List.take (Int.toNat ((((List.length p1.2.1) : Nat) : Int) - 1)) (List.drop 1 p1.2.1)), ((List.length (p1.2.2.2.2.1 ++ [(T.agg [(T.s (.int .i64 (Su.Tm.id x14))), (T.s (.int .u64 (Su.Tm.c x15)))])])), (p1.2.2.2.1, ((p1.2.2.2.2.1 ++ [(T.agg [(T.s (.int .i64 (Su.Tm.id x14))), (T.s (.int .u64 (Su.Tm.c x15)))])]), ()))))))
 else
  none)
 else
  (bif ((true && (Nat.beq p1.2.2.1 (List.length p1.2.2.2.2.1))) && (Nat.ble ((List.length p1.2.2.2.2.1) + (List.length [(T.agg [(T.s (.int .i64 (Su.Tm.id x14))), (T.s (.int .u64 (((Su.addN (Int.toNat (Su.Tm.c x15)) (Int.toNat (Su.Tm.c x16)) 0) : Nat) : Int)))])])) 549755813888)) then
  some (.inl ((List.take (Int.toNat ((((List.length p1.1) : Nat) : Int) - 1)) (List.drop 1 p1.1)), ((List.take (Int.toNat ((((List.length p1.2.1) : Nat) : Int) - 1)) (List.drop 1 p1.2.1)), ((List.length (p1.2.2.2.2.1 ++ [(T.agg [(T.s (.int .i64 (Su.Tm.id x14))), (T.s (.int .u64 (((Su.addN (Int.toNat (Su.Tm.c x15)) (Int.toNat (Su.Tm.c x16)) 0) : Nat) : Int)))])])), ((((Su.upS 0 [p1.2.2.2.1, (((Su.addN (Int.toNat (((Su.addN (Int.toNat (Su.Tm.c x15)) (Int.toNat (Su.Tm.c x16)) 1) : Nat) : Int)) (Int.toNat (((Su.negF (Int.toNat (((Su.addN (Int.toNat (Su.Tm.c x15)) (Int.toNat (Su.Tm.c x16)) 2) : Nat) : Int))) : Nat) : Int)) 1) : Nat) : Int)]) : Nat) : Int), ((p1.2.2.2.2.1 ++ [(T.agg [(T.s (.int .i64 (Su.Tm.id x14))), (T.s (.int .u64 (((Su.addN (Int.toNat (Su.Tm.c x15)) (Int.toNat (Su.Tm.c x16)) 0) : Nat) : Int)))])]), ()))))))
 else
  none)))
 else
  none)
 else
  none))))
 else
  (bif (decide (((((List.length p1.1) : Nat) : Int) = 0))) then
  ((Su.idx p1.2.1 0)).bind fun x17 =>
  ((Su.idx p1.2.1 0)).bind fun x18 =>
  (bif (true && ((true && (decide ((1 ≤ (((List.length p1.2.1) : Nat) : Int))))) && (decide (((((List.length p1.2.1) : Nat) : Int) ≤ (((List.length p1.2.1) : Nat) : Int)))))) then
  (bif ((true && (Nat.beq p1.2.2.1 (List.length p1.2.2.2.2.1))) && (Nat.ble ((List.length p1.2.2.2.2.1) + (List.length [(T.agg [(T.s (.int .i64 (Su.Tm.id x17))), (T.s (.int .u64 (Su.Tm.c x18)))])])) 549755813888)) then
  some (.inl (p1.1, ((List.take (Int.toNat ((((List.length p1.2.1) : Nat) : Int) - 1)) (List.drop 1 p1.2.1)), ((List.length (p1.2.2.2.2.1 ++ [(T.agg [(T.s (.int .i64 (Su.Tm.id x17))), (T.s (.int .u64 (Su.Tm.c x18)))])])), (p1.2.2.2.1, ((p1.2.2.2.2.1 ++ [(T.agg [(T.s (.int .i64 (Su.Tm.id x17))), (T.s (.int .u64 (Su.Tm.c x18)))])]), ()))))))
 else
  none)
 else
  none)
 else
  ((Su.idx p1.2.1 0)).bind fun x19 =>
  ((Su.idx p1.1 0)).bind fun x20 =>
  (bif (decide (((Su.Tm.id x19) < (Su.Tm.id x20)))) then
  ((Su.idx p1.2.1 0)).bind fun x21 =>
  ((Su.idx p1.2.1 0)).bind fun x22 =>
  (bif (true && ((true && (decide ((1 ≤ (((List.length p1.2.1) : Nat) : Int))))) && (decide (((((List.length p1.2.1) : Nat) : Int) ≤ (((List.length p1.2.1) : Nat) : Int)))))) then
  (bif ((true && (Nat.beq p1.2.2.1 (List.length p1.2.2.2.2.1))) && (Nat.ble ((List.length p1.2.2.2.2.1) + (List.length [(T.agg [(T.s (.int .i64 (Su.Tm.id x21))), (T.s (.int .u64 (Su.Tm.c x22)))])])) 549755813888)) then
  some (.inl (p1.1, ((List.take (Int.toNat ((((List.length p1.2.1) : Nat) : Int) - 1)) (List.drop 1 p1.2.1)), ((List.length (p1.2.2.2.2.1 ++ [(T.agg [(T.s (.int .i64 (Su.Tm.id x21))), (T.s (.int .u64 (Su.Tm.c x22)))])])), (p1.2.2.2.1, ((p1.2.2.2.2.1 ++ [(T.agg [(T.s (.int .i64 (Su.Tm.id x21))), (T.s (.int .u64 (Su.Tm.c x22)))])]), ()))))))
 else
  none)
 else
  none)
 else
  ((Su.idx p1.1 0)).bind fun x23 =>
  ((Su.idx p1.1 0)).bind fun x24 =>
  ((Su.idx p1.2.1 0)).bind fun x25 =>
  (bif (true && ((true && (decide ((1 ≤ (((List.length p1.1) : Nat) : Int))))) && (decide (((((List.length p1.1) : Nat) : Int) ≤ (((List.length p1.1) : Nat) : Int)))))) then
  (bif (true && ((true && (decide ((1 ≤ (((List.length p1.2.1) : Nat) : Int))))) && (decide (((((List.length p1.2.1) : Nat) : Int) ≤ (((List.length p1.2.1) : Nat) : Int)))))) then
  (bif (decide (((Su.Tm.c x24) = 0))) then
  (bif ((true && (Nat.beq p1.2.2.1 (List.length p1.2.2.2.2.1))) && (Nat.ble ((List.length p1.2.2.2.2.1) + (List.length [(T.agg [(T.s (.int .i64 (Su.Tm.id x23))), (T.s (.int .u64 (Su.Tm.c x25)))])])) 549755813888)) then
  some (.inl ((List.take (Int.toNat ((((List.length p1.1) : Nat) : Int) - 1)) (List.drop 1 p1.1)), ((List.take (Int.toNat ((((List.length p1.2.1) : Nat) : Int) - 1)) (List.drop 1 p1.2.1)), ((List.length (p1.2.2.2.2.1 ++ [(T.agg [(T.s (.int .i64 (Su.Tm.id x23))), (T.s (.int .u64 (Su.Tm.c x25)))])])), (p1.2.2.2.1, ((p1.2.2.2.2.1 ++ [(T.agg [(T.s (.int .i64 (Su.Tm.id x23))), (T.s (.int .u64 (Su.Tm.c x25)))])]), ()))))))
 else
  none)
 else
  (bif (decide (((Su.Tm.c x25) = 0))) then
  (bif ((true && (Nat.beq p1.2.2.1 (List.length p1.2.2.2.2.1))) && (Nat.ble ((List.length p1.2.2.2.2.1) + (List.length [(T.agg [(T.s (.int .i64 (Su.Tm.id x23))), (T.s (.int .u64 (Su.Tm.c x24)))])])) 549755813888)) then
  some (.inl ((List.take (Int.toNat ((((List.length p1.1) : Nat) : Int) - 1)) (List.drop 1 p1.1)), ((List.take (Int.toNat ((((List.length p1.2.1) : Nat) : Int) - 1)) (List.drop 1 p1.2.1)), ((List.length (p1.2.2.2.2.1 ++ [(T.agg [(T.s (.int .i64 (Su.Tm.id x23))), (T.s (.int .u64 (Su.Tm.c x24)))])])), (p1.2.2.2.1, ((p1.2.2.2.2.1 ++ [(T.agg [(T.s (.int .i64 (Su.Tm.id x23))), (T.s (.int .u64 (Su.Tm.c x24)))])]), ()))))))
 else
  none)
 else
  (bif ((true && (Nat.beq p1.2.2.1 (List.length p1.2.2.2.2.1))) && (Nat.ble ((List.length p1.2.2.2.2.1) + (List.length [(T.agg [(T.s (.int .i64 (Su.Tm.id x23))), (T.s (.int .u64 (((Su.addN (Int.toNat (Su.Tm.c x24)) (Int.toNat (Su.Tm.c x25)) 0) : Nat) : Int)))])])) 549755813888)) then
  some (.inl ((List.take (Int.toNat ((((List.length p1.1) : Nat) : Int) - 1)) (List.drop 1 p1.1)), ((List.take (Int.toNat ((((List.length p1.2.1) : Nat) : Int) - 1)) (List.drop 1 p1.2.1)), ((List.length (p1.2.2.2.2.1 ++ [(T.agg [(T.s (.int .i64 (Su.Tm.id x23))), (T.s (.int .u64 (((Su.addN (Int.toNat (Su.Tm.c x24)) (Int.toNat (Su.Tm.c x25)) 0) : Nat) : Int)))])])), ((((Su.upS 0 [p1.2.2.2.1, (((Su.addN (Int.toNat (((Su.addN (Int.toNat (Su.Tm.c x24)) (Int.toNat (Su.Tm.c x25)) 1) : Nat) : Int)) (Int.toNat (((Su.negF (Int.toNat (((Su.addN (Int.toNat (Su.Tm.c x24)) (Int.toNat (Su.Tm.c x25)) 2) : Nat) : Int))) : Nat) : Int)) 1) : Nat) : Int)]) : Nat) : Int), ((p1.2.2.2.2.1 ++ [(T.agg [(T.s (.int .i64 (Su.Tm.id x23))), (T.s (.int .u64 (((Su.addN (Int.toNat (Su.Tm.c x24)) (Int.toNat (Su.Tm.c x25)) 0) : Nat) : Int)))])]), ()))))))
 else
  none)))
 else
  none)
 else
  none)))))
 else
  (bif (decide ((0 < (((List.length p1.2.1) : Nat) : Int)))) then
  (bif (decide (((((List.length p1.2.1) : Nat) : Int) = 0))) then
  ((Su.idx p1.1 0)).bind fun x26 =>
  ((Su.idx p1.1 0)).bind fun x27 =>
  (bif (true && ((true && (decide ((1 ≤ (((List.length p1.1) : Nat) : Int))))) && (decide (((((List.length p1.1) : Nat) : Int) ≤ (((List.length p1.1) : Nat) : Int)))))) then
  (bif (decide (((Su.Tm.c x27) = 0))) then
  (bif ((true && (Nat.beq p1.2.2.1 (List.length p1.2.2.2.2.1))) && (Nat.ble ((List.length p1.2.2.2.2.1) + (List.length [(T.agg [(T.s (.int .i64 (Su.Tm.id x26))), (T.s (.int .u64 0))])])) 549755813888)) then
  some (.inl ((List.take (Int.toNat ((((List.length p1.1) : Nat) : Int) - 1)) (List.drop 1 p1.1)), (p1.2.1, ((List.length (p1.2.2.2.2.1 ++ [(T.agg [(T.s (.int .i64 (Su.Tm.id x26))), (T.s (.int .u64 0))])])), (p1.2.2.2.1, ((p1.2.2.2.2.1 ++ [(T.agg [(T.s (.int .i64 (Su.Tm.id x26))), (T.s (.int .u64 0))])]), ()))))))
 else
  none)
 else
  (bif ((true && (Nat.beq p1.2.2.1 (List.length p1.2.2.2.2.1))) && (Nat.ble ((List.length p1.2.2.2.2.1) + (List.length [(T.agg [(T.s (.int .i64 (Su.Tm.id x26))), (T.s (.int .u64 (Su.Tm.c x27)))])])) 549755813888)) then
  some (.inl ((List.take (Int.toNat ((((List.length p1.1) : Nat) : Int) - 1)) (List.drop 1 p1.1)), (p1.2.1, ((List.length (p1.2.2.2.2.1 ++ [(T.agg [(T.s (.int .i64 (Su.Tm.id x26))), (T.s (.int .u64 (Su.Tm.c x27)))])])), (p1.2.2.2.1, ((p1.2.2.2.2.1 ++ [(T.agg [(T.s (.int .i64 (Su.Tm.id x26))), (T.s (.int .u64 (Su.Tm.c x27)))])]), ()))))))
 else
  none))
 else
  none)
 else
  (bif (decide ((0 < (((List.length p1.1) : Nat) : Int)))) then
  ((Su.idx p1.1 0)).bind fun x28 =>
  ((Su.idx p1.2.1 0)).bind fun x29 =>
  (bif (decide (((Su.Tm.id x28) < (Su.Tm.id x29)))) then
  ((Su.idx p1.1 0)).bind fun x30 =>
  ((Su.idx p1.1 0)).bind fun x31 =>
  (bif (true && ((true && (decide ((1 ≤ (((List.length p1.1) : Nat) : Int))))) && (decide (((((List.length p1.1) : Nat) : Int) ≤ (((List.length p1.1) : Nat) : Int)))))) then
  (bif (decide (((Su.Tm.c x31) = 0))) then
  (bif ((true && (Nat.beq p1.2.2.1 (List.length p1.2.2.2.2.1))) && (Nat.ble ((List.length p1.2.2.2.2.1) + (List.length [(T.agg [(T.s (.int .i64 (Su.Tm.id x30))), (T.s (.int .u64 0))])])) 549755813888)) then
  some (.inl ((List.take (Int.toNat ((((List.length p1.1) : Nat) : Int) - 1)) (List.drop 1 p1.1)), (p1.2.1, ((List.length (p1.2.2.2.2.1 ++ [(T.agg [(T.s (.int .i64 (Su.Tm.id x30))), (T.s (.int .u64 0))])])), (p1.2.2.2.1, ((p1.2.2.2.2.1 ++ [(T.agg [(T.s (.int .i64 (Su.Tm.id x30))), (T.s (.int .u64 0))])]), ()))))))
 else
  none)
 else
  (bif ((true && (Nat.beq p1.2.2.1 (List.length p1.2.2.2.2.1))) && (Nat.ble ((List.length p1.2.2.2.2.1) + (List.length [(T.agg [(T.s (.int .i64 (Su.Tm.id x30))), (T.s (.int .u64 (Su.Tm.c x31)))])])) 549755813888)) then
  some (.inl ((List.take (Int.toNat ((((List.length p1.1) : Nat) : Int) - 1)) (List.drop 1 p1.1)), (p1.2.1, ((List.length (p1.2.2.2.2.1 ++ [(T.agg [(T.s (.int .i64 (Su.Tm.id x30))), (T.s (.int .u64 (Su.Tm.c x31)))])])), (p1.2.2.2.1, ((p1.2.2.2.2.1 ++ [(T.agg [(T.s (.int .i64 (Su.Tm.id x30))), (T.s (.int .u64 (Su.Tm.c x31)))])]), ()))))))
 else
  none))
 else
  none)
 else
  (bif (decide (((((List.length p1.1) : Nat) : Int) = 0))) then
  ((Su.idx p1.2.1 0)).bind fun x32 =>
  ((Su.idx p1.2.1 0)).bind fun x33 =>
  (bif (true && ((true && (decide ((1 ≤ (((List.length p1.2.1) : Nat) : Int))))) && (decide (((((List.length p1.2.1) : Nat) : Int) ≤ (((List.length p1.2.1) : Nat) : Int)))))) then
  (bif ((true && (Nat.beq p1.2.2.1 (List.length p1.2.2.2.2.1))) && (Nat.ble ((List.length p1.2.2.2.2.1) + (List.length [(T.agg [(T.s (.int .i64 (Su.Tm.id x32))), (T.s (.int .u64 (Su.Tm.c x33)))])])) 549755813888)) then
  some (.inl (p1.1, ((List.take (Int.toNat ((((List.length p1.2.1) : Nat) : Int) - 1)) (List.drop 1 p1.2.1)), ((List.length (p1.2.2.2.2.1 ++ [(T.agg [(T.s (.int .i64 (Su.Tm.id x32))), (T.s (.int .u64 (Su.Tm.c x33)))])])), (p1.2.2.2.1, ((p1.2.2.2.2.1 ++ [(T.agg [(T.s (.int .i64 (Su.Tm.id x32))), (T.s (.int .u64 (Su.Tm.c x33)))])]), ()))))))
 else
  none)
 else
  none)
 else
  ((Su.idx p1.2.1 0)).bind fun x34 =>
  ((Su.idx p1.1 0)).bind fun x35 =>
  (bif (decide (((Su.Tm.id x34) < (Su.Tm.id x35)))) then
  ((Su.idx p1.2.1 0)).bind fun x36 =>
  ((Su.idx p1.2.1 0)).bind fun x37 =>
  (bif (true && ((true && (decide ((1 ≤ (((List.length p1.2.1) : Nat) : Int))))) && (decide (((((List.length p1.2.1) : Nat) : Int) ≤ (((List.length p1.2.1) : Nat) : Int)))))) then
  (bif ((true && (Nat.beq p1.2.2.1 (List.length p1.2.2.2.2.1))) && (Nat.ble ((List.length p1.2.2.2.2.1) + (List.length [(T.agg [(T.s (.int .i64 (Su.Tm.id x36))), (T.s (.int .u64 (Su.Tm.c x37)))])])) 549755813888)) then
  some (.inl (p1.1, ((List.take (Int.toNat ((((List.length p1.2.1) : Nat) : Int) - 1)) (List.drop 1 p1.2.1)), ((List.length (p1.2.2.2.2.1 ++ [(T.agg [(T.s (.int .i64 (Su.Tm.id x36))), (T.s (.int .u64 (Su.Tm.c x37)))])])), (p1.2.2.2.1, ((p1.2.2.2.2.1 ++ [(T.agg [(T.s (.int .i64 (Su.Tm.id x36))), (T.s (.int .u64 (Su.Tm.c x37)))])]), ()))))))
 else
  none)
 else
  none)
 else
  ((Su.idx p1.1 0)).bind fun x38 =>
  ((Su.idx p1.1 0)).bind fun x39 =>
  ((Su.idx p1.2.1 0)).bind fun x40 =>
  (bif (true && ((true && (decide ((1 ≤ (((List.length p1.1) : Nat) : Int))))) && (decide (((((List.length p1.1) : Nat) : Int) ≤ (((List.length p1.1) : Nat) : Int)))))) then
  (bif (true && ((true && (decide ((1 ≤ (((List.length p1.2.1) : Nat) : Int))))) && (decide (((((List.length p1.2.1) : Nat) : Int) ≤ (((List.length p1.2.1) : Nat) : Int)))))) then
  (bif (decide (((Su.Tm.c x39) = 0))) then
  (bif ((true && (Nat.beq p1.2.2.1 (List.length p1.2.2.2.2.1))) && (Nat.ble ((List.length p1.2.2.2.2.1) + (List.length [(T.agg [(T.s (.int .i64 (Su.Tm.id x38))), (T.s (.int .u64 (Su.Tm.c x40)))])])) 549755813888)) then
  some (.inl ((List.take (Int.toNat ((((List.length p1.1) : Nat) : Int) - 1)) (List.drop 1 p1.1)), ((List.take (Int.toNat ((((List.length p1.2.1) : Nat) : Int) - 1)) (List.drop 1 p1.2.1)), ((List.length (p1.2.2.2.2.1 ++ [(T.agg [(T.s (.int .i64 (Su.Tm.id x38))), (T.s (.int .u64 (Su.Tm.c x40)))])])), (p1.2.2.2.1, ((p1.2.2.2.2.1 ++ [(T.agg [(T.s (.int .i64 (Su.Tm.id x38))), (T.s (.int .u64 (Su.Tm.c x40)))])]), ()))))))
 else
  none)
 else
  (bif (decide (((Su.Tm.c x40) = 0))) then
  (bif ((true && (Nat.beq p1.2.2.1 (List.length p1.2.2.2.2.1))) && (Nat.ble ((List.length p1.2.2.2.2.1) + (List.length [(T.agg [(T.s (.int .i64 (Su.Tm.id x38))), (T.s (.int .u64 (Su.Tm.c x39)))])])) 549755813888)) then
  some (.inl ((List.take (Int.toNat ((((List.length p1.1) : Nat) : Int) - 1)) (List.drop 1 p1.1)), ((List.take (Int.toNat ((((List.length p1.2.1) : Nat) : Int) - 1)) (List.drop 1 p1.2.1)), ((List.length (p1.2.2.2.2.1 ++ [(T.agg [(T.s (.int .i64 (Su.Tm.id x38))), (T.s (.int .u64 (Su.Tm.c x39)))])])), (p1.2.2.2.1, ((p1.2.2.2.2.1 ++ [(T.agg [(T.s (.int .i64 (Su.Tm.id x38))), (T.s (.int .u64 (Su.Tm.c x39)))])]), ()))))))
 else
  none)
 else
  (bif ((true && (Nat.beq p1.2.2.1 (List.length p1.2.2.2.2.1))) && (Nat.ble ((List.length p1.2.2.2.2.1) + (List.length [(T.agg [(T.s (.int .i64 (Su.Tm.id x38))), (T.s (.int .u64 (((Su.addN (Int.toNat (Su.Tm.c x39)) (Int.toNat (Su.Tm.c x40)) 0) : Nat) : Int)))])])) 549755813888)) then
  some (.inl ((List.take (Int.toNat ((((List.length p1.1) : Nat) : Int) - 1)) (List.drop 1 p1.1)), ((List.take (Int.toNat ((((List.length p1.2.1) : Nat) : Int) - 1)) (List.drop 1 p1.2.1)), ((List.length (p1.2.2.2.2.1 ++ [(T.agg [(T.s (.int .i64 (Su.Tm.id x38))), (T.s (.int .u64 (((Su.addN (Int.toNat (Su.Tm.c x39)) (Int.toNat (Su.Tm.c x40)) 0) : Nat) : Int)))])])), ((((Su.upS 0 [p1.2.2.2.1, (((Su.addN (Int.toNat (((Su.addN (Int.toNat (Su.Tm.c x39)) (Int.toNat (Su.Tm.c x40)) 1) : Nat) : Int)) (Int.toNat (((Su.negF (Int.toNat (((Su.addN (Int.toNat (Su.Tm.c x39)) (Int.toNat (Su.Tm.c x40)) 2) : Nat) : Int))) : Nat) : Int)) 1) : Nat) : Int)]) : Nat) : Int), ((p1.2.2.2.2.1 ++ [(T.agg [(T.s (.int .i64 (Su.Tm.id x38))), (T.s (.int .u64 (((Su.addN (Int.toNat (Su.Tm.c x39)) (Int.toNat (Su.Tm.c x40)) 0) : Nat) : Int)))])]), ()))))))
 else
  none)))
 else
  none)
 else
  none))))
 else
  (bif (decide (((((List.length p1.1) : Nat) : Int) = 0))) then
  ((Su.idx p1.2.1 0)).bind fun x41 =>
  ((Su.idx p1.2.1 0)).bind fun x42 =>
  (bif (true && ((true && (decide ((1 ≤ (((List.length p1.2.1) : Nat) : Int))))) && (decide (((((List.length p1.2.1) : Nat) : Int) ≤ (((List.length p1.2.1) : Nat) : Int)))))) then
  (bif ((true && (Nat.beq p1.2.2.1 (List.length p1.2.2.2.2.1))) && (Nat.ble ((List.length p1.2.2.2.2.1) + (List.length [(T.agg [(T.s (.int .i64 (Su.Tm.id x41))), (T.s (.int .u64 (Su.Tm.c x42)))])])) 549755813888)) then
  some (.inl (p1.1, ((List.take (Int.toNat ((((List.length p1.2.1) : Nat) : Int) - 1)) (List.drop 1 p1.2.1)), ((List.length (p1.2.2.2.2.1 ++ [(T.agg [(T.s (.int .i64 (Su.Tm.id x41))), (T.s (.int .u64 (Su.Tm.c x42)))])])), (p1.2.2.2.1, ((p1.2.2.2.2.1 ++ [(T.agg [(T.s (.int .i64 (Su.Tm.id x41))), (T.s (.int .u64 (Su.Tm.c x42)))])]), ()))))))
 else
  none)
 else
  none)
 else
  ((Su.idx p1.2.1 0)).bind fun x43 =>
  ((Su.idx p1.1 0)).bind fun x44 =>
  (bif (decide (((Su.Tm.id x43) < (Su.Tm.id x44)))) then
  ((Su.idx p1.2.1 0)).bind fun x45 =>
  ((Su.idx p1.2.1 0)).bind fun x46 =>
  (bif (true && ((true && (decide ((1 ≤ (((List.length p1.2.1) : Nat) : Int))))) && (decide (((((List.length p1.2.1) : Nat) : Int) ≤ (((List.length p1.2.1) : Nat) : Int)))))) then
  (bif ((true && (Nat.beq p1.2.2.1 (List.length p1.2.2.2.2.1))) && (Nat.ble ((List.length p1.2.2.2.2.1) + (List.length [(T.agg [(T.s (.int .i64 (Su.Tm.id x45))), (T.s (.int .u64 (Su.Tm.c x46)))])])) 549755813888)) then
  some (.inl (p1.1, ((List.take (Int.toNat ((((List.length p1.2.1) : Nat) : Int) - 1)) (List.drop 1 p1.2.1)), ((List.length (p1.2.2.2.2.1 ++ [(T.agg [(T.s (.int .i64 (Su.Tm.id x45))), (T.s (.int .u64 (Su.Tm.c x46)))])])), (p1.2.2.2.1, ((p1.2.2.2.2.1 ++ [(T.agg [(T.s (.int .i64 (Su.Tm.id x45))), (T.s (.int .u64 (Su.Tm.c x46)))])]), ()))))))
 else
  none)
 else
  none)
 else
  ((Su.idx p1.1 0)).bind fun x47 =>
  ((Su.idx p1.1 0)).bind fun x48 =>
  ((Su.idx p1.2.1 0)).bind fun x49 =>
  (bif (true && ((true && (decide ((1 ≤ (((List.length p1.1) : Nat) : Int))))) && (decide (((((List.length p1.1) : Nat) : Int) ≤ (((List.length p1.1) : Nat) : Int)))))) then
  (bif (true && ((true && (decide ((1 ≤ (((List.length p1.2.1) : Nat) : Int))))) && (decide (((((List.length p1.2.1) : Nat) : Int) ≤ (((List.length p1.2.1) : Nat) : Int)))))) then
  (bif (decide (((Su.Tm.c x48) = 0))) then
  (bif ((true && (Nat.beq p1.2.2.1 (List.length p1.2.2.2.2.1))) && (Nat.ble ((List.length p1.2.2.2.2.1) + (List.length [(T.agg [(T.s (.int .i64 (Su.Tm.id x47))), (T.s (.int .u64 (Su.Tm.c x49)))])])) 549755813888)) then
  some (.inl ((List.take (Int.toNat ((((List.length p1.1) : Nat) : Int) - 1)) (List.drop 1 p1.1)), ((List.take (Int.toNat ((((List.length p1.2.1) : Nat) : Int) - 1)) (List.drop 1 p1.2.1)), ((List.length (p1.2.2.2.2.1 ++ [(T.agg [(T.s (.int .i64 (Su.Tm.id x47))), (T.s (.int .u64 (Su.Tm.c x49)))])])), (p1.2.2.2.1, ((p1.2.2.2.2.1 ++ [(T.agg [(T.s (.int .i64 (Su.Tm.id x47))), (T.s (.int .u64 (Su.Tm.c x49)))])]), ()))))))
 else
  none)
 else
  (bif (decide (((Su.Tm.c x49) = 0))) then
  (bif ((true && (Nat.beq p1.2.2.1 (List.length p1.2.2.2.2.1))) && (Nat.ble ((List.length p1.2.2.2.2.1) + (List.length [(T.agg [(T.s (.int .i64 (Su.Tm.id x47))), (T.s (.int .u64 (Su.Tm.c x48)))])])) 549755813888)) then
  some (.inl ((List.take (Int.toNat ((((List.length p1.1) : Nat) : Int) - 1)) (List.drop 1 p1.1)), ((List.take (Int.toNat ((((List.length p1.2.1) : Nat) : Int) - 1)) (List.drop 1 p1.2.1)), ((List.length (p1.2.2.2.2.1 ++ [(T.agg [(T.s (.int .i64 (Su.Tm.id x47))), (T.s (.int .u64 (Su.Tm.c x48)))])])), (p1.2.2.2.1, ((p1.2.2.2.2.1 ++ [(T.agg [(T.s (.int .i64 (Su.Tm.id x47))), (T.s (.int .u64 (Su.Tm.c x48)))])]), ()))))))
 else
  none)
 else
  (bif ((true && (Nat.beq p1.2.2.1 (List.length p1.2.2.2.2.1))) && (Nat.ble ((List.length p1.2.2.2.2.1) + (List.length [(T.agg [(T.s (.int .i64 (Su.Tm.id x47))), (T.s (.int .u64 (((Su.addN (Int.toNat (Su.Tm.c x48)) (Int.toNat (Su.Tm.c x49)) 0) : Nat) : Int)))])])) 549755813888)) then
  some (.inl ((List.take (Int.toNat ((((List.length p1.1) : Nat) : Int) - 1)) (List.drop 1 p1.1)), ((List.take (Int.toNat ((((List.length p1.2.1) : Nat) : Int) - 1)) (List.drop 1 p1.2.1)), ((List.length (p1.2.2.2.2.1 ++ [(T.agg [(T.s (.int .i64 (Su.Tm.id x47))), (T.s (.int .u64 (((Su.addN (Int.toNat (Su.Tm.c x48)) (Int.toNat (Su.Tm.c x49)) 0) : Nat) : Int)))])])), ((((Su.upS 0 [p1.2.2.2.1, (((Su.addN (Int.toNat (((Su.addN (Int.toNat (Su.Tm.c x48)) (Int.toNat (Su.Tm.c x49)) 1) : Nat) : Int)) (Int.toNat (((Su.negF (Int.toNat (((Su.addN (Int.toNat (Su.Tm.c x48)) (Int.toNat (Su.Tm.c x49)) 2) : Nat) : Int))) : Nat) : Int)) 1) : Nat) : Int)]) : Nat) : Int), ((p1.2.2.2.2.1 ++ [(T.agg [(T.s (.int .i64 (Su.Tm.id x47))), (T.s (.int .u64 (((Su.addN (Int.toNat (Su.Tm.c x48)) (Int.toNat (Su.Tm.c x49)) 0) : Nat) : Int)))])]), ()))))))
 else
  none)))
 else
  none)
 else
  none)))))
 else
  some (.inr (p1.1, (p1.2.1, (p1.2.2.1, (p1.2.2.2.1, (p1.2.2.2.2.1, ()))))))))
def aSum  (fu : Nat) (a : (Bool × (Int × ((List Su.Tm) × Int)))) (b : (Bool × (Int × ((List Su.Tm) × Int)))) : Option (Bool × (Int × ((List Su.Tm) × Int))) :=
  (bif (List.any [(a.1, (a.2.1, (a.2.2.1, a.2.2.2))), (b.1, (b.2.1, (b.2.2.1, b.2.2.2)))] (fun z0 => (z0.1 || (!(Su.mayF z0))))) then
  some (true, (0, ([], 0)))
 else
  (itP fu (aSum_l1) (a.2.2.1, (b.2.2.1, (0, ((((Su.upS 0 [a.2.2.2, b.2.2.2, (((Su.addN (Int.toNat (((Su.addN (Int.toNat a.2.1) (Int.toNat b.2.1) 1) : Nat) : Int)) (Int.toNat (((Su.negF (Int.toNat (((Su.addN (Int.toNat a.2.1) (Int.toNat b.2.1) 2) : Nat) : Int))) : Nat) : Int)) 1) : Nat) : Int)]) : Nat) : Int), ([], ())))))).bind fun x50 =>
  (bif (true && (Nat.beq x50.2.2.1 (List.length x50.2.2.2.2.1))) then
  ((((((Su.unTms x50.2.2.2.2.1)).bind fun x51 =>
  some (x51, x50.2.2.2.1)).bind fun x52 =>
  some ((((Su.addN (Int.toNat a.2.1) (Int.toNat b.2.1) 0) : Nat) : Int), x52)).bind fun x53 =>
  some (false, x53)).bind fun x54 =>
  some (Su.doneF x54)).bind fun x55 =>
  some (x55.1, (x55.2.1, (x55.2.2.1, x55.2.2.2)))
 else
  none))
set_option linter.unusedSimpArgs false
def addI (a b m : Int) : Int := ((addN a.toNat b.toNat m : Nat) : Int)
def mulI (a b m : Int) : Int := ((mulN a.toNat b.toNat m : Nat) : Int)
def upI (l : List Int) : Int := ((upS 0 l : Nat) : Int)
/-- How far an operation's nearest answer may be from the exact one. -/
def slkA (x y : Int) : Int := addI (addI x y 1) (negI (addI x y 2)) 1
def slkM (x y : Int) : Int := addI (mulI x y 1) (negI (mulI x y 2)) 1
def stepM (id : Int) (r : Int × Int) (g : Int → List Tm × Int) : List Tm × Int := (⟨id, r.1⟩ :: (g r.2).1, (g r.2).2)
/-- Two rows of noises, by their IDs. -/
def mergeN (f : Int → Int → Int → Int × Int) : Nat → List Tm → List Tm → Int → List Tm × Int
  | 0, _, _, e => ([], e)
  | _ + 1, [], [], e => ([], e)
  | n + 1, a :: l, [], e => stepM a.id (f e a.c 0) (mergeN f n l [])
  | n + 1, [], b :: m, e => stepM b.id (f e 0 b.c) (mergeN f n [] m)
  | n + 1, a :: l, b :: m, e => bif decide (a.id < b.id) then stepM a.id (f e a.c 0) (mergeN f n l (b :: m)) else bif decide (b.id < a.id) then stepM b.id (f e 0 b.c) (mergeN f n (a :: l) m) else stepM a.id (f e a.c b.c) (mergeN f n l m)
def sumD (e x y : Int) : Int × Int := bif decide (x = 0) then (y, e) else bif decide (y = 0) then (x, e) else (addI x y 0, upI [e, slkA x y])
def addO' (a b : Fm) : Fm := bif okF a && okF b then (let r := mergeN sumD (a.2.2.1.length + b.2.2.1.length) a.2.2.1 b.2.2.1 (upI [a.2.2.2, b.2.2.2, slkA a.2.1 b.2.1]); doneF (false, (addI a.2.1 b.2.1 0, (r.1, r.2)))) else badF
def addFmL : {f : Fm → Fm → Fm // ∀ a b, f a b = addO' a b} := Classical.choice ⟨⟨_, fun _ _ => rfl⟩⟩
def addFm (a b : Fm) : Fm := addFmL.1 a b
theorem addFm_eq (a b : Fm) : addFm a b = addO' a b := addFmL.2 a b
theorem hpos (n : Nat) : decide (0 < ((n + 1 : Nat) : Int)) = true := decide_eq_true (by omega)
theorem hz0 : decide (((0 : Nat) : Int) = 0) = true := rfl
theorem hnz (n : Nat) : decide (((n + 1 : Nat) : Int) = 0) = false := decide_eq_false (by omega)
theorem hp0 : decide (0 < ((0 : Nat) : Int)) = false := rfl
theorem hge1 (n : Nat) : decide (1 ≤ ((n + 1 : Nat) : Int)) = true := decide_eq_true (by omega)
theorem hle (n : Int) : decide (n ≤ n) = true := decide_eq_true (by omega)
theorem idx0 {α : Type} (x : α) (l : List α) : idx (x :: l) 0 = some x := rfl
theorem takeL {α : Type} (x : α) (l : List α) : List.take (Int.toNat (((l.length + 1 : Nat) : Int) - 1)) (List.drop 1 (x :: l)) = l := by
  rw [show Int.toNat (((l.length + 1 : Nat) : Int) - 1) = l.length by omega]
  exact List.take_length
theorem mapS (A : List Tm) (i c : Int) : A.map vT ++ [T.agg [T.s (.int .i64 i), T.s (.int .u64 c)]] = (A ++ [(⟨i, c⟩ : Tm)]).map vT := by simp; rfl
theorem lenS (A : List Tm) (t : Tm) : ((A ++ [t]).map vT).length = (A ++ [t]).length := by simp
theorem sum_loop : ∀ (n : Nat) (l m : List Tm) (e : Int) (A : List Tm), l.length + m.length ≤ n → A.length + n ≤ 549755813888 →
    ∃ fu, itP fu aSum_l1 (l, (m, (A.length, (e, (A.map vT, ()))))) = some ([], ([], ((A ++ (mergeN sumD n l m e).1).length, ((mergeN sumD n l m e).2, ((A ++ (mergeN sumD n l m e).1).map vT, ())))))
  | 0, l, m, e, A, h, hA => by
    have h1 : l = [] := List.length_eq_zero_iff.1 (by omega)
    have h2 : m = [] := List.length_eq_zero_iff.1 (by omega)
    subst h1 h2
    refine ⟨1, ?_⟩
    rw [itP_s]
    simp only [aSum_l1, List.length_nil, hp0, cond_false, Option.bind_some, mergeN, List.append_nil]
  | n + 1, l, m, e, A, h, hA => by
    have hb : Nat.ble (A.length + 1) 549755813888 = true := Nat.ble_eq_true_of_le (by omega)
    have go : ∀ (l' m' : List Tm) (e' id c : Int), l'.length + m'.length ≤ n →
        aSum_l1 (l, (m, (A.length, (e, (A.map vT, ()))))) = some (.inl (l', (m', ((A ++ [(⟨id, c⟩ : Tm)]).length, (e', ((A ++ [(⟨id, c⟩ : Tm)]).map vT, ())))))) →
        mergeN sumD (n + 1) l m e = stepM id (c, e') (mergeN sumD n l' m') →
        ∃ fu, itP fu aSum_l1 (l, (m, (A.length, (e, (A.map vT, ()))))) = some ([], ([], ((A ++ (mergeN sumD (n + 1) l m e).1).length, ((mergeN sumD (n + 1) l m e).2, ((A ++ (mergeN sumD (n + 1) l m e).1).map vT, ()))))) := by
      intro l' m' e' id c hl' hstep hm
      obtain ⟨fu, q⟩ := sum_loop n l' m' e' (A ++ [⟨id, c⟩]) hl' (by simp; omega)
      refine ⟨fu + 1, ?_⟩
      rw [itP_s, hstep, hm]
      simp only [Option.bind_some, stepM]
      rw [q]
      simp only [List.append_assoc, List.singleton_append]
    match l, m, h with
    | [], [], h =>
      refine ⟨1, ?_⟩
      rw [itP_s]
      simp only [aSum_l1, List.length_nil, hp0, cond_false, Option.bind_some, mergeN, List.append_nil]
    | x :: l, [], h =>
      simp only [List.length_cons, List.length_nil] at h
      cases hx : decide (x.c = 0) with
      | true =>
        have hx' := of_decide_eq_true hx
        refine go l [] e x.id 0 (by simp; omega) ?_ ?_
        · simp only [aSum_l1, List.length_cons, List.length_nil, hpos, hz0, hnz, hp0, hge1, hle, idx0, takeL, hx, hb, List.length_map, beq_self, Bool.and_true, Bool.true_and, cond_true, cond_false, Option.bind_some, mapS, lenS]
        · simp only [mergeN, sumD, hx, cond_true]
      | false =>
        refine go l [] e x.id x.c (by simp; omega) ?_ ?_
        · simp only [aSum_l1, List.length_cons, List.length_nil, hpos, hz0, hnz, hp0, hge1, hle, idx0, takeL, hx, hb, List.length_map, beq_self, Bool.and_true, Bool.true_and, cond_true, cond_false, Option.bind_some, mapS, lenS]
        · simp only [mergeN, sumD, hx, cond_false]; rfl
    | [], y :: m, h =>
      simp only [List.length_cons, List.length_nil] at h
      refine go [] m e y.id y.c (by simp; omega) ?_ ?_
      · simp only [aSum_l1, List.length_cons, List.length_nil, hpos, hz0, hnz, hp0, hge1, hle, idx0, takeL, hb, List.length_map, beq_self, Bool.and_true, Bool.true_and, cond_true, cond_false, Option.bind_some, mapS, lenS]
      · simp only [mergeN, sumD]; rfl
    | x :: l, y :: m, h =>
      simp only [List.length_cons] at h
      cases h1 : decide (x.id < y.id) with
      | true =>
        cases hx : decide (x.c = 0) with
        | true =>
          refine go l (y :: m) e x.id 0 (by simp; omega) ?_ ?_
          · simp only [aSum_l1, List.length_cons, List.length_nil, hpos, hz0, hnz, hp0, hge1, hle, idx0, takeL, h1, hx, hb, List.length_map, beq_self, Bool.and_true, Bool.true_and, cond_true, cond_false, Option.bind_some, mapS, lenS]
          · simp only [mergeN, h1, sumD, hx, cond_true]
        | false =>
          refine go l (y :: m) e x.id x.c (by simp; omega) ?_ ?_
          · simp only [aSum_l1, List.length_cons, List.length_nil, hpos, hz0, hnz, hp0, hge1, hle, idx0, takeL, h1, hx, hb, List.length_map, beq_self, Bool.and_true, Bool.true_and, cond_true, cond_false, Option.bind_some, mapS, lenS]
          · simp only [mergeN, h1, sumD, hx, cond_true, cond_false]; rfl
      | false =>
        cases h2 : decide (y.id < x.id) with
        | true =>
          refine go (x :: l) m e y.id y.c (by simp; omega) ?_ ?_
          · simp only [aSum_l1, List.length_cons, List.length_nil, hpos, hz0, hnz, hp0, hge1, hle, idx0, takeL, h1, h2, hb, List.length_map, beq_self, Bool.and_true, Bool.true_and, cond_true, cond_false, Option.bind_some, mapS, lenS]
          · simp only [mergeN, h1, h2, sumD, cond_true, cond_false]; rfl
        | false =>
          cases hx : decide (x.c = 0) with
          | true =>
            refine go l m e x.id y.c (by omega) ?_ ?_
            · simp only [aSum_l1, List.length_cons, List.length_nil, hpos, hz0, hnz, hp0, hge1, hle, idx0, takeL, h1, h2, hx, hb, List.length_map, beq_self, Bool.and_true, Bool.true_and, cond_true, cond_false, Option.bind_some, mapS, lenS]
            · simp only [mergeN, h1, h2, sumD, hx, cond_true, cond_false]
          | false =>
            cases hy : decide (y.c = 0) with
            | true =>
              refine go l m e x.id x.c (by omega) ?_ ?_
              · simp only [aSum_l1, List.length_cons, List.length_nil, hpos, hz0, hnz, hp0, hge1, hle, idx0, takeL, h1, h2, hx, hy, hb, List.length_map, beq_self, Bool.and_true, Bool.true_and, cond_true, cond_false, Option.bind_some, mapS, lenS]
              · simp only [mergeN, h1, h2, sumD, hx, hy, cond_true, cond_false]
            | false =>
              refine go l m (upI [e, slkA x.c y.c]) x.id (addI x.c y.c 0) (by omega) ?_ ?_
              · simp only [aSum_l1, List.length_cons, List.length_nil, hpos, hz0, hnz, hp0, hge1, hle, idx0, takeL, h1, h2, hx, hy, hb, List.length_map, beq_self, Bool.and_true, Bool.true_and, cond_true, cond_false, Option.bind_some, mapS, lenS]
                rfl
              · simp only [mergeN, h1, h2, sumD, hx, hy, cond_true, cond_false]
def aSum_s (p : Fm × Fm) : Option Fm := bif Nat.ble (p.1.2.2.1.length + p.2.2.2.1.length) 549755813888 then some (addFm p.1 p.2) else none
theorem aSum_ok (p : Fm × Fm) (y : Fm) (hg : (dc cFrm (d1 cFrm)).good p) (h : aSum_s p = some y) : ∃ n, aSum n p.1 p.2 = some y := by
  obtain ⟨⟨b1, m1, l1, e1⟩, b2, m2, l2, e2⟩ := p
  obtain ⟨h1, h2⟩ := bif_some h
  have := soi h2; subst this
  have hl : l1.length + l2.length ≤ 549755813888 := Nat.le_of_ble_eq_true h1
  have ha : List.any [((b1, (m1, (l1, e1))) : Fm), (b2, (m2, (l2, e2)))] (fun z0 => (z0.1 || (!(Su.mayF z0)))) = !(okF (b1, (m1, (l1, e1))) && okF (b2, (m2, (l2, e2)))) := by simp [okF]
  obtain ⟨n, q⟩ := sum_loop _ l1 l2 (upI [e1, e2, slkA m1 m2]) [] (Nat.le_refl _) (by simpa using hl)
  refine ⟨n, ?_⟩
  rw [addFm_eq]
  unfold aSum addO'
  simp only []
  rw [ha]
  cases (okF (b1, (m1, (l1, e1))) && okF (b2, (m2, (l2, e2)))) with
  | false => rfl
  | true =>
    rw [Bool.not_true, cond_false, cond_true]
    refine obs q ?_
    simp only [List.nil_append, List.length_map, beq_self, Bool.and_true, cond_true]
    exact obs (obs (obs (obs (obs (unTms_map _) rfl) rfl) rfl) rfl) rfl

end
end Su
end
section
namespace Su
open Go Fly
set_option linter.unusedVariables false
noncomputable section
def aSub  (a : (Bool × (Int × ((List Su.Tm) × Int)))) (b : (Bool × (Int × ((List Su.Tm) × Int)))) : Option (Bool × (Int × ((List Su.Tm) × Int))) :=
  ((bif (Su.lenOK b.2.2.1) then
  some (Su.negFm (b.1, (b.2.1, (b.2.2.1, b.2.2.2))))
 else
  none)).bind fun x0 =>
  ((bif (Nat.ble ((List.length a.2.2.1) + (List.length x0.2.2.1)) 549755813888) then
  some (Su.addFm (a.1, (a.2.1, (a.2.2.1, a.2.2.2))) (x0.1, (x0.2.1, (x0.2.2.1, x0.2.2.2))))
 else
  none)).bind fun x1 =>
  some (x1.1, (x1.2.1, (x1.2.2.1, x1.2.2.2)))
def subFm (a b : Fm) : Fm := addFm a (negFm b)
def aSub_s (p : Fm × Fm) : Option Fm := bif lenOK p.2.2.2.1 && Nat.ble (p.1.2.2.1.length + (negFm p.2).2.2.1.length) 549755813888 then some (subFm p.1 p.2) else none
theorem aSub_ok (p : Fm × Fm) (y : Fm) (hg : (dc cFrm (d1 cFrm)).good p) (h : aSub_s p = some y) : aSub p.1 p.2 = some y := by
  obtain ⟨⟨b1, m1, l1, e1⟩, b2, m2, l2, e2⟩ := p
  obtain ⟨h1, h2⟩ := bif_some h
  have := soi h2; subst this
  simp only [Bool.and_eq_true] at h1
  have h3 : lenOK l2 = true := h1.1
  have h4 : Nat.ble (l1.length + (negFm (b2, (m2, (l2, e2)))).2.2.1.length) 549755813888 = true := h1.2
  unfold aSub
  simp only [h3, cond_true, Option.bind_some, h4]
  rfl

end
end Su
end
section
namespace Su
open Go Fly
set_option linter.unusedVariables false
noncomputable section
def spAt  (a : Int) (b : Int) : Option Bool :=
  (bif (Su.cmpO (Int.toNat a) (Int.toNat b)) then
  some (decide (((Su.cmpC (Int.toNat a) (Int.toNat b)) ≤ 0)))
 else
  some false)
def leF (a b : Int) : Bool := cmpO a.toNat b.toNat && decide (cmpC a.toNat b.toNat ≤ 0)
def spAt_s (p : Int × Int) : Option Bool := some (leF p.1 p.2)
theorem spAt_ok (p : Int × Int) (y : Bool) (hg : (dc (cI .u64) (d1 (cI .u64))).good p) (h : spAt_s p = some y) : spAt p.1 p.2 = some y := by
  have := soi h; subst this
  unfold spAt leF
  cases cmpO p.1.toNat p.2.toNat <;> rfl

end
end Su
end
section
namespace Su
open Go Fly
set_option linter.unusedVariables false
noncomputable section
def spNorm_l1 : (Nat × (Int × (Int × (Bool × (Int × (Int × (Bool × (Int × (Int × Unit))))))))) → Option ((Nat × (Int × (Int × (Bool × (Int × (Int × (Bool × (Int × (Int × Unit))))))))) ⊕ (Nat × (Int × (Int × (Bool × (Int × (Int × (Bool × (Int × (Int × Unit)))))))))) := fun p0 => (bif (decide ((p0.2.2.1 < p0.2.1))) then
  (bif (true && (true && ((decide ((0 ≤ p0.2.2.1))) && (decide ((p0.2.2.1 < ((p0.1 : Nat) : Int))))))) then
  (bif (Nat.beq (Int.toNat p0.2.2.1) 0) then
  (bif (decide (((((Su.clsK (Su.bK (Int.toNat p0.2.2.2.2.1))) : Nat) : Int) = 0))) then
  some (.inl (p0.1, (p0.2.1, ((Go.IntKind.wrap .i64 (p0.2.2.1 + 1)), (p0.2.2.2.1, (0, (p0.2.2.2.2.2.1, (p0.2.2.2.2.2.2.1, (p0.2.2.2.2.2.2.2.1, (p0.2.2.2.2.2.2.2.2.1, ()))))))))))
 else
  some (.inl (p0.1, (p0.2.1, ((Go.IntKind.wrap .i64 (p0.2.2.1 + 1)), (p0.2.2.2.1, (p0.2.2.2.2.1, (p0.2.2.2.2.2.1, (p0.2.2.2.2.2.2.1, (p0.2.2.2.2.2.2.2.1, (p0.2.2.2.2.2.2.2.2.1, ())))))))))))
 else
  (bif (Nat.beq ((Int.toNat p0.2.2.1) - 1) 0) then
  (bif (decide (((((Su.clsK (Su.bK (Int.toNat p0.2.2.2.2.2.1))) : Nat) : Int) = 0))) then
  some (.inl (p0.1, (p0.2.1, ((Go.IntKind.wrap .i64 (p0.2.2.1 + 1)), (p0.2.2.2.1, (p0.2.2.2.2.1, (0, (p0.2.2.2.2.2.2.1, (p0.2.2.2.2.2.2.2.1, (p0.2.2.2.2.2.2.2.2.1, ()))))))))))
 else
  some (.inl (p0.1, (p0.2.1, ((Go.IntKind.wrap .i64 (p0.2.2.1 + 1)), (p0.2.2.2.1, (p0.2.2.2.2.1, (p0.2.2.2.2.2.1, (p0.2.2.2.2.2.2.1, (p0.2.2.2.2.2.2.2.1, (p0.2.2.2.2.2.2.2.2.1, ())))))))))))
 else
  none))
 else
  none)
 else
  some (.inr (p0.1, (p0.2.1, (p0.2.2.1, (p0.2.2.2.1, (p0.2.2.2.2.1, (p0.2.2.2.2.2.1, (p0.2.2.2.2.2.2.1, (p0.2.2.2.2.2.2.2.1, (p0.2.2.2.2.2.2.2.2.1, ())))))))))))
def spNorm  (fu : Nat) (s : (Bool × (Int × Int))) : Option (Bool × (Int × Int)) :=
  (bif s.1 then
  some (true, (0, 0))
 else
  (bif (!(Su.leF s.2.1 s.2.2)) then
  some (true, (0, 0))
 else
  (bif (decide ((s.2.1 = ((9218868437227405312 : Nat) : Int)))) then
  some (true, (0, 0))
 else
  (bif (decide ((s.2.2 = ((18442240474082181120 : Nat) : Int)))) then
  some (true, (0, 0))
 else
  (itP fu (spNorm_l1) (2, (2, (0, (s.1, (s.2.1, (s.2.2, (false, (0, (0, ())))))))))).bind fun x1 =>
  some (x1.2.2.2.1, (x1.2.2.2.2.1, x1.2.2.2.2.2.1))))))
abbrev Spn := Bool × (Int × Int)
def noneS : Spn := (true, (0, 0))
/-- A span in the one way. -/
def normS (s : Spn) : Spn := bif s.1 || (!leF s.2.1 s.2.2 || (decide (s.2.1 = 9218868437227405312) || decide (s.2.2 = 18442240474082181120))) then noneS else (s.1, (nzI s.2.1, nzI s.2.2))
def spNorm_s (s : Spn) : Option Spn := some (normS s)
theorem spNorm_ok (s y : Spn) (hg : (d1 cSpn).good s) (h : spNorm_s s = some y) : ∃ n, spNorm n s = some y := by
  obtain ⟨e, lo, hi⟩ := s
  have := soi h; subst this
  refine ⟨3, ?_⟩
  unfold spNorm normS nzI zI
  have hz : ∀ f : Int, decide (((clsK (bK (Int.toNat f)) : Nat) : Int) = 0) = Nat.beq (bK (Int.toNat f)) 0 := fun f => cls_zero _
  have w1 : IntKind.i64.wrap 1 = 1 := by decide
  have w2 : IntKind.i64.wrap 2 = 2 := by decide
  simp only [itP_s, spNorm_l1, hz]
  cases e with
  | true => rfl
  | false =>
    cases leF lo hi with
    | false => rfl
    | true =>
      cases h1 : decide (lo = 9218868437227405312) with
      | true => simp [h1]; rfl
      | false =>
        cases h2 : decide (hi = 18442240474082181120) with
        | true => simp [h1, h2]; rfl
        | false =>
          cases h3 : Nat.beq (bK (Int.toNat lo)) 0 <;> cases h4 : Nat.beq (bK (Int.toNat hi)) 0 <;> (simp [h1, h2, h3, h4, w1, w2]; try rfl)

end
end Su
end
section

end
section
namespace Su
open Go Fly
theorem infK_fin {k : Nat} (h : k ≤ 9218868437227405311) : infK k = false := by unfold infK; rw [beq_dec]; exact decide_eq_false (by omega)
theorem nanK_fin {k : Nat} (h : k ≤ 9218868437227405311) : nanK k = false := nanK_not.2 (by omega)
theorem addF_fin {a b : Nat} {mode : Int} (ha : bK a ≤ 9218868437227405311) (hb : bK b ≤ 9218868437227405311) (za : bK a ≠ 0) (zb : bK b ≠ 0) : addF a b mode = bif swapF a b then addO b a mode else addO a b mode := by
  unfold addF
  rw [nanK_fin ha, nanK_fin hb, infK_fin ha, infK_fin hb, beq0 za, beq0 zb]
  rfl
theorem addF_zz {a b : Nat} {mode : Int} (ha : bK a = 0) (hb : bK b = 0) : addF a b mode = bif decide (bS a = bS b) then a else sgN (decide (mode = 2)) := by
  unfold addF
  rw [ha, hb]
  cases decide (bS a = bS b) <;> rfl
theorem sub_self' {x : Nat} {mode : Int} (hx : x < 18446744073709551616) (hf : bK x ≤ 9218868437227405311) : addF x (negF x) mode = sgN (decide (mode = 2)) := by
  have e1 := bK_neg hx
  have e2 := bS_neg hx (nanK_fin hf)
  by_cases h0 : bK x = 0
  · rw [addF_zz h0 (by rw [e1]; exact h0), e2]
    cases bS x <;> rfl
  · rw [addF_fin hf (by rw [e1]; exact hf) h0 (by rw [e1]; exact h0)]
    have : swapF x (negF x) = false := by
      unfold swapF; rw [e1]; simp
    rw [this, cond_false]
    unfold addO addX
    rw [e1, e2, Nat.sub_self, Nat.pow_zero, Nat.one_mul, if_neg (by cases bS x <;> simp), if_pos rfl]
theorem RN_key {neg : Bool} {mode : Int} {k : Nat} (h0 : k ≠ 0) : RN neg mode (kM k) (kE k + SH) false = sgN neg + finN (twN neg mode) k := by
  obtain ⟨q, w, rfl, h1, h2⟩ := key_form k
  rw [kM_eq h1 h2, kE_eq h1 h2]
  have hw : w ≠ 0 := fun e => by subst e; have : q = 0 := by omega
                                 subst this; exact h0 rfl
  have hb : blen w ≤ 53 := blen_le.2 h1
  have hq : qN w (q + SH) = q := by
    unfold qN
    rcases h2 with h2 | h2
    · have : blen w = 53 := by
        refine Nat.le_antisymm hb ?_
        refine Nat.le_of_not_lt fun h => ?_
        have := blen_le.1 (by omega : blen w ≤ 52)
        omega
      omega
    · omega
  have hd : dN w (q + SH) = 0 := by unfold dN; rw [hq]; omega
  have e1 : hfN w (q + SH) = false := by unfold hfN; rw [hd]; rfl
  have e4 : rsN w (q + SH) = false := by unfold rsN; rw [hd]; rfl
  have e2 : keepN w (q + SH) = w := by unfold keepN; rw [hq]; simp
  have hf : floorN w (q + SH) = q * 4503599627370496 + w := by rw [floorN_def, hq, e2]
  have b2 : Nat.beq w 0 = false := beq0 hw
  unfold RN
  rw [b2, e1, e4, e2, hf]
  obtain ⟨K, hK⟩ : ∃ K, K = q * 4503599627370496 + w := ⟨_, rfl⟩
  rw [← hK]
  have h3 : upN neg mode (w % 2 == 1) false (false || false) = false := by unfold upN; cases awN neg mode <;> cases twN neg mode <;> rfl
  rw [h3, cond_false, Bool.toNat_false, Nat.add_zero]
def dblK (k : Nat) : Nat := if k < 4503599627370496 then 2 * k else k + 4503599627370496
/-- Twice a number, in parts. -/
theorem dbl_parts {k : Nat} (h0 : k ≠ 0) : ∃ D, kE (dblK k) = kE k + D ∧ 2 ^ D * kM (dblK k) = 2 * kM k ∧ (D = 0 → kM k ≤ kM (dblK k)) := by
  unfold dblK
  split
  · rename_i h
    have e1 := kM_eq (q := 0) (w := 2 * k) (by omega) (.inr rfl)
    have e2 := kE_eq (q := 0) (w := 2 * k) (by omega) (.inr rfl)
    have e3 := kM_eq (q := 0) (w := k) (by omega) (.inr rfl)
    have e4 := kE_eq (q := 0) (w := k) (by omega) (.inr rfl)
    rw [Nat.zero_mul, Nat.zero_add] at e1 e2 e3 e4
    exact ⟨0, by rw [e2, e4], by rw [e1, e3, Nat.pow_zero, Nat.one_mul], fun _ => by rw [e1, e3]; omega⟩
  · rename_i h
    obtain ⟨q, w, rfl, h1, h2⟩ := key_form k
    have h3 : 4503599627370496 ≤ w := by omega
    have e1 := kM_eq (q := q + 1) (w := w) h1 (.inl h3)
    have e2 := kE_eq (q := q + 1) (w := w) h1 (.inl h3)
    have e3 := kM_eq (q := q) (w := w) h1 (.inl h3)
    have e4 := kE_eq (q := q) (w := w) h1 (.inl h3)
    have e5 : q * 4503599627370496 + w + 4503599627370496 = (q + 1) * 4503599627370496 + w := by omega
    rw [e5]
    exact ⟨1, by rw [e2, e4], by rw [e1, e3, Nat.pow_one], fun h => by cases h⟩
theorem dblK_pos {k : Nat} (h0 : k ≠ 0) : dblK k ≠ 0 := by unfold dblK; split <;> omega
theorem E_eq (k : Nat) : ((kE k : Int) - 1074 + 6000).toNat = kE k + SH := by rw [SH_eq]; omega
theorem RN_dbl {neg : Bool} {mode : Int} {k : Nat} (h0 : k ≠ 0) : RN neg mode (2 * kM k) (kE k + SH) false = sgN neg + finN (twN neg mode) (dblK k) := by
  obtain ⟨D, h1, h2, _⟩ := dbl_parts h0
  rw [← RN_key (dblK_pos h0), h1, ← h2]
  have hp := Nat.two_pow_pos D
  have e1 : 2 ^ D * kM (dblK k) / 2 ^ D = kM (dblK k) := Nat.mul_div_cancel_left _ hp
  have e2 : 2 ^ D * kM (dblK k) % 2 ^ D = 0 := Nat.mul_mod_right _ _
  have hk : kM (dblK k) ≠ 0 := fun e => dblK_pos h0 (kM_zero.1 e)
  have := RN_shr (neg := neg) (mode := mode) (M := 2 ^ D * kM (dblK k)) (E := kE k + SH) (t := D) (by rw [e1]; exact hk) (.inr e2)
  rw [e1, e2] at this
  rw [← this, show kE k + SH + D = kE k + D + SH by omega]
  rfl
theorem swap_self (x : Nat) : swapF x x = false := by unfold swapF; simp
theorem dbl_add {x : Nat} (hf : bK x ≤ 9218868437227405311) (h0 : bK x ≠ 0) : addF x x 0 = sgN (bS x) + finN false (dblK (bK x)) := by
  rw [addF_fin hf hf h0 h0, swap_self, cond_false]
  unfold addO addX
  rw [if_pos rfl, Nat.sub_self, Nat.pow_zero, Nat.one_mul, E_eq, ← Nat.two_mul, RN_dbl h0]
  congr 2
  cases bS x <;> rfl
theorem bK_sg {b : Bool} {k : Nat} (h : k < 9223372036854775808) : bK (sgN b + k) = k ∧ bS (sgN b + k) = b := by
  unfold bK sgN
  cases b with
  | true => rw [cond_true]; exact ⟨by omega, bS_iff.2 (by omega)⟩
  | false => rw [cond_false]; exact ⟨by omega, bS_not.2 (by omega)⟩
/-- Twice a number, if it is one, less that number. -/
theorem dbl_sub {x : Nat} (hx : x < 18446744073709551616) (hf : bK x ≤ 9218868437227405311) (h0 : bK x ≠ 0) (hd : bK (addF x x 0) ≤ 9218868437227405311) : bK (addF x x 0) ≠ 0 ∧ addF (addF x x 0) (negF x) 0 = x := by
  rw [dbl_add hf h0] at hd ⊢
  have hfin : finN false (dblK (bK x)) < 9223372036854775808 := by
    have := finN_le false (dblK (bK x)); omega
  obtain ⟨c1, c2⟩ := bK_sg (b := bS x) hfin
  rw [c1] at hd
  have hle : dblK (bK x) ≤ 9218868437227405311 := by
    refine Nat.le_of_not_lt fun h => ?_
    have : Nat.ble (dblK (bK x)) topN = false := by
      rw [ble_dec]; exact decide_eq_false (by unfold topN; omega)
    unfold finN at hd
    rw [this] at hd
    unfold topN at hd
    simp at hd
  have hfe : finN false (dblK (bK x)) = dblK (bK x) := by
    unfold finN
    rw [show Nat.ble (dblK (bK x)) topN = true by rw [Nat.ble_eq]; exact hle]
    rfl
  rw [hfe] at c1 c2 ⊢
  have e1 := bK_neg hx
  have e2 := bS_neg hx (nanK_fin hf)
  refine ⟨by rw [c1]; exact dblK_pos h0, ?_⟩
  obtain ⟨D, h1, h2, h3⟩ := dbl_parts h0
  rw [addF_fin (by rw [c1]; exact hle) (by rw [e1]; exact hf) (by rw [c1]; exact dblK_pos h0) (by rw [e1]; exact h0)]
  have hs : swapF (sgN (bS x) + dblK (bK x)) (negF x) = false := by
    unfold swapF
    rw [c1, e1, h1, decide_eq_false (by omega), Bool.false_or]
    cases D with
    | zero => have := h3 rfl; rw [decide_eq_false (by omega : ¬ kM (dblK (bK x)) < kM (bK x)), Bool.and_false]
    | succ D => rw [decide_eq_false (by omega), Bool.false_and]
  rw [hs, cond_false]
  unfold addO addX
  rw [c1, c2, e1, e2, if_neg (by cases bS x <;> simp), h1, Nat.add_sub_cancel_left, h2]
  have hm : kM (bK x) ≠ 0 := fun e => h0 (kM_zero.1 e)
  rw [if_neg (by omega), E_eq, show 2 * kM (bK x) - kM (bK x) = kM (bK x) by omega, RN_self hf]
  exact (f_split hx).symm
end Su
end
