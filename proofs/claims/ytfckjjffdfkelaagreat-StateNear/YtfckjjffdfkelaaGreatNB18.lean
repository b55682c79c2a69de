/-
  What functions of the program compute, in plain Lean, and that the evaluator finds it.
-/
import Derived.Test.YtfckjjffdfkelaaGreatSuSd
import Derived.Test.YtfckjjffdfkelaaGreatRrt
set_option maxRecDepth 10000
namespace Su
open Go Fly
set_option linter.unusedVariables false
noncomputable section
def lNear_l1 : ((List Int) × ((List Int) × ((List Bool) × (Int × ((List Su.Cc) × ((List Su.T) × ((List Su.T) × ((List Su.T) × ((List Su.T) × (Int × (Bool × (Bool × (Int × (Int × ((List Su.Ce) × (Bool × (Nat × (Bool × (Int × ((List Su.T) × Unit)))))))))))))))))))) → Option (((List Int) × ((List Int) × ((List Bool) × (Int × ((List Su.Cc) × ((List Su.T) × ((List Su.T) × ((List Su.T) × ((List Su.T) × (Int × (Bool × (Bool × (Int × (Int × ((List Su.Ce) × (Bool × (Nat × (Bool × (Int × ((List Su.T) × Unit)))))))))))))))))))) ⊕ (Lp ((List Int) × ((List Int) × ((List Bool) × (Int × ((List Su.Cc) × ((List Su.T) × ((List Su.T) × ((List Su.T) × ((List Su.T) × (Int × (Bool × (Bool × (Int × (Int × ((List Su.Ce) × (Bool × (Nat × (Bool × (Int × ((List Su.T) × Unit)))))))))))))))))))) Bool)) := fun p0 => (bif (decide ((p0.2.2.2.2.2.2.2.2.2.2.2.2.2.2.2.2.2.2.1 < (((List.length p0.1) : Nat) : Int)))) then
  ((Su.idx p0.2.1 p0.2.2.2.2.2.2.2.2.2.2.2.2.2.2.2.2.2.2.1)).bind fun x1 =>
  ((Su.PVal_s x1)).bind fun x2 =>
  ((Su.idx p0.1 p0.2.2.2.2.2.2.2.2.2.2.2.2.2.2.2.2.2.2.1)).bind fun x3 =>
  ((Su.PVal_s x3)).bind fun x4 =>
  (bif (!x2.2) then
  some (.inr (.ret p0.2.2.2.2.2.2.2.2.2.2.2.2.2.2.2.1))
 else
  (bif (!x4.2) then
  some (.inr (.ret p0.2.2.2.2.2.2.2.2.2.2.2.2.2.2.2.1))
 else
  ((Su.idx p0.1 p0.2.2.2.2.2.2.2.2.2.2.2.2.2.2.2.2.2.2.1)).bind fun x5 =>
  ((Su.idx p0.2.2.1 p0.2.2.2.2.2.2.2.2.2.2.2.2.2.2.2.2.2.2.1)).bind fun x6 =>
  (bif ((true && (Nat.beq p0.2.2.2.2.2.2.2.2.2.2.2.2.2.2.2.2.1 (List.length p0.2.2.2.2.2.2.2.2.2.2.2.2.2.2.2.2.2.2.2.1))) && (Nat.ble ((List.length p0.2.2.2.2.2.2.2.2.2.2.2.2.2.2.2.2.2.2.2.1) + (List.length [(T.agg [(T.s (.int .u8 3)), (T.s (.bool false)), (T.s (.int .i32 0)), (T.s (.int .u64 x5)), (T.s (.bool x2.1.1)), (T.ql 1 1 x2.1.2.1), (T.ql 1 1 x2.1.2.2), (T.s (.bool x6))])])) 549755813888)) then
  (bif p0.2.2.2.2.2.2.2.2.2.2.2.2.2.2.2.2.2.1 then
  ((Su.idx p0.2.2.2.2.1 p0.2.2.2.2.2.2.2.2.2.2.2.2.2.2.2.2.2.2.1)).bind fun x7 =>
  (bif (decide (((Su.Cc.type x7) = 3))) then
  ((Su.idx p0.2.2.2.2.2.2.2.2.2.2.2.2.2.2.1 p0.2.2.2.2.2.2.2.2.2.2.2.2.2.2.2.2.2.2.1)).bind fun x8 =>
  ((Su.PVal_s (Su.gdF (Su.Ce.sl x8)))).bind fun x9 =>
  (bif (!x9.2) then
  some (.inl (p0.1, (p0.2.1, (p0.2.2.1, (p0.2.2.2.1, (p0.2.2.2.2.1, (p0.2.2.2.2.2.1, (p0.2.2.2.2.2.2.1, (p0.2.2.2.2.2.2.2.1, (p0.2.2.2.2.2.2.2.2.1, (p0.2.2.2.2.2.2.2.2.2.1, (p0.2.2.2.2.2.2.2.2.2.2.1, (p0.2.2.2.2.2.2.2.2.2.2.2.1, (p0.2.2.2.2.2.2.2.2.2.2.2.2.1, (p0.2.2.2.2.2.2.2.2.2.2.2.2.2.1, (p0.2.2.2.2.2.2.2.2.2.2.2.2.2.2.1, (p0.2.2.2.2.2.2.2.2.2.2.2.2.2.2.2.1, ((List.length (p0.2.2.2.2.2.2.2.2.2.2.2.2.2.2.2.2.2.2.2.1 ++ [(T.agg [(T.s (.int .u8 3)), (T.s (.bool false)), (T.s (.int .i32 0)), (T.s (.int .u64 x5)), (T.s (.bool x2.1.1)), (T.ql 1 1 x2.1.2.1), (T.ql 1 1 x2.1.2.2), (T.s (.bool x6))])])), (true, ((Go.IntKind.wrap .i64 (p0.2.2.2.2.2.2.2.2.2.2.2.2.2.2.2.2.2.2.1 + 1)), ((p0.2.2.2.2.2.2.2.2.2.2.2.2.2.2.2.2.2.2.2.1 ++ [(T.agg [(T.s (.int .u8 3)), (T.s (.bool false)), (T.s (.int .i32 0)), (T.s (.int .u64 x5)), (T.s (.bool x2.1.1)), (T.ql 1 1 x2.1.2.1), (T.ql 1 1 x2.1.2.2), (T.s (.bool x6))])]), ())))))))))))))))))))))
 else
  ((Su.idx p0.2.2.1 p0.2.2.2.2.2.2.2.2.2.2.2.2.2.2.2.2.2.2.1)).bind fun x10 =>
  (bif x10 then
  ((Su.RSub_s ((x4.1.1, (x4.1.2.1, x4.1.2.2)), (x2.1.1, (x2.1.2.1, x2.1.2.2))))).bind fun x11 =>
  ((Su.RAbs_s (x11.1, (x11.2.1, x11.2.2)))).bind fun x12 =>
  ((Su.RCmp_s ((x12.1, (x12.2.1, x12.2.2)), (x9.1.1, (x9.1.2.1, x9.1.2.2))))).bind fun x13 =>
  some (.inl (p0.1, (p0.2.1, (p0.2.2.1, (p0.2.2.2.1, (p0.2.2.2.2.1, (p0.2.2.2.2.2.1, (p0.2.2.2.2.2.2.1, (p0.2.2.2.2.2.2.2.1, (p0.2.2.2.2.2.2.2.2.1, (p0.2.2.2.2.2.2.2.2.2.1, (p0.2.2.2.2.2.2.2.2.2.2.1, (p0.2.2.2.2.2.2.2.2.2.2.2.1, (p0.2.2.2.2.2.2.2.2.2.2.2.2.1, (p0.2.2.2.2.2.2.2.2.2.2.2.2.2.1, (p0.2.2.2.2.2.2.2.2.2.2.2.2.2.2.1, (p0.2.2.2.2.2.2.2.2.2.2.2.2.2.2.2.1, ((List.length (p0.2.2.2.2.2.2.2.2.2.2.2.2.2.2.2.2.2.2.2.1 ++ [(T.agg [(T.s (.int .u8 3)), (T.s (.bool false)), (T.s (.int .i32 0)), (T.s (.int .u64 x5)), (T.s (.bool x2.1.1)), (T.ql 1 1 x2.1.2.1), (T.ql 1 1 x2.1.2.2), (T.s (.bool x6))])])), ((decide ((x13 ≤ 0))), ((Go.IntKind.wrap .i64 (p0.2.2.2.2.2.2.2.2.2.2.2.2.2.2.2.2.2.2.1 + 1)), ((p0.2.2.2.2.2.2.2.2.2.2.2.2.2.2.2.2.2.2.2.1 ++ [(T.agg [(T.s (.int .u8 3)), (T.s (.bool false)), (T.s (.int .i32 0)), (T.s (.int .u64 x5)), (T.s (.bool x2.1.1)), (T.ql 1 1 x2.1.2.1), (T.ql 1 1 x2.1.2.2), (T.s (.bool x6))])]), ())))))))))))))))))))))
 else
  some (.inl (p0.1, (p0.2.1, (p0.2.2.1, (p0.2.2.2.1, (p0.2.2.2.2.1, (p0.2.2.2.2.2.1, (p0.2.2.2.2.2.2.1, (p0.2.2.2.2.2.2.2.1, (p0.2.2.2.2.2.2.2.2.1, (p0.2.2.2.2.2.2.2.2.2.1, (p0.2.2.2.2.2.2.2.2.2.2.1, (p0.2.2.2.2.2.2.2.2.2.2.2.1, (p0.2.2.2.2.2.2.2.2.2.2.2.2.1, (p0.2.2.2.2.2.2.2.2.2.2.2.2.2.1, (p0.2.2.2.2.2.2.2.2.2.2.2.2.2.2.1, (p0.2.2.2.2.2.2.2.2.2.2.2.2.2.2.2.1, ((List.length (p0.2.2.2.2.2.2.2.2.2.2.2.2.2.2.2.2.2.2.2.1 ++ [(T.agg [(T.s (.int .u8 3)), (T.s (.bool false)), (T.s (.int .i32 0)), (T.s (.int .u64 x5)), (T.s (.bool x2.1.1)), (T.ql 1 1 x2.1.2.1), (T.ql 1 1 x2.1.2.2), (T.s (.bool x6))])])), (false, ((Go.IntKind.wrap .i64 (p0.2.2.2.2.2.2.2.2.2.2.2.2.2.2.2.2.2.2.1 + 1)), ((p0.2.2.2.2.2.2.2.2.2.2.2.2.2.2.2.2.2.2.2.1 ++ [(T.agg [(T.s (.int .u8 3)), (T.s (.bool false)), (T.s (.int .i32 0)), (T.s (.int .u64 x5)), (T.s (.bool x2.1.1)), (T.ql 1 1 x2.1.2.1), (T.ql 1 1 x2.1.2.2), (T.s (.bool x6))])]), ())))))))))))))))))))))))
 else
  some (.inl (p0.1, (p0.2.1, (p0.2.2.1, (p0.2.2.2.1, (p0.2.2.2.2.1, (p0.2.2.2.2.2.1, (p0.2.2.2.2.2.2.1, (p0.2.2.2.2.2.2.2.1, (p0.2.2.2.2.2.2.2.2.1, (p0.2.2.2.2.2.2.2.2.2.1, (p0.2.2.2.2.2.2.2.2.2.2.1, (p0.2.2.2.2.2.2.2.2.2.2.2.1, (p0.2.2.2.2.2.2.2.2.2.2.2.2.1, (p0.2.2.2.2.2.2.2.2.2.2.2.2.2.1, (p0.2.2.2.2.2.2.2.2.2.2.2.2.2.2.1, (p0.2.2.2.2.2.2.2.2.2.2.2.2.2.2.2.1, ((List.length (p0.2.2.2.2.2.2.2.2.2.2.2.2.2.2.2.2.2.2.2.1 ++ [(T.agg [(T.s (.int .u8 3)), (T.s (.bool false)), (T.s (.int .i32 0)), (T.s (.int .u64 x5)), (T.s (.bool x2.1.1)), (T.ql 1 1 x2.1.2.1), (T.ql 1 1 x2.1.2.2), (T.s (.bool x6))])])), (p0.2.2.2.2.2.2.2.2.2.2.2.2.2.2.2.2.2.1, ((Go.IntKind.wrap .i64 (p0.2.2.2.2.2.2.2.2.2.2.2.2.2.2.2.2.2.2.1 + 1)), ((p0.2.2.2.2.2.2.2.2.2.2.2.2.2.2.2.2.2.2.2.1 ++ [(T.agg [(T.s (.int .u8 3)), (T.s (.bool false)), (T.s (.int .i32 0)), (T.s (.int .u64 x5)), (T.s (.bool x2.1.1)), (T.ql 1 1 x2.1.2.1), (T.ql 1 1 x2.1.2.2), (T.s (.bool x6))])]), ()))))))))))))))))))))))
 else
  some (.inl (p0.1, (p0.2.1, (p0.2.2.1, (p0.2.2.2.1, (p0.2.2.2.2.1, (p0.2.2.2.2.2.1, (p0.2.2.2.2.2.2.1, (p0.2.2.2.2.2.2.2.1, (p0.2.2.2.2.2.2.2.2.1, (p0.2.2.2.2.2.2.2.2.2.1, (p0.2.2.2.2.2.2.2.2.2.2.1, (p0.2.2.2.2.2.2.2.2.2.2.2.1, (p0.2.2.2.2.2.2.2.2.2.2.2.2.1, (p0.2.2.2.2.2.2.2.2.2.2.2.2.2.1, (p0.2.2.2.2.2.2.2.2.2.2.2.2.2.2.1, (p0.2.2.2.2.2.2.2.2.2.2.2.2.2.2.2.1, ((List.length (p0.2.2.2.2.2.2.2.2.2.2.2.2.2.2.2.2.2.2.2.1 ++ [(T.agg [(T.s (.int .u8 3)), (T.s (.bool false)), (T.s (.int .i32 0)), (T.s (.int .u64 x5)), (T.s (.bool x2.1.1)), (T.ql 1 1 x2.1.2.1), (T.ql 1 1 x2.1.2.2), (T.s (.bool x6))])])), (p0.2.2.2.2.2.2.2.2.2.2.2.2.2.2.2.2.2.1, ((Go.IntKind.wrap .i64 (p0.2.2.2.2.2.2.2.2.2.2.2.2.2.2.2.2.2.2.1 + 1)), ((p0.2.2.2.2.2.2.2.2.2.2.2.2.2.2.2.2.2.2.2.1 ++ [(T.agg [(T.s (.int .u8 3)), (T.s (.bool false)), (T.s (.int .i32 0)), (T.s (.int .u64 x5)), (T.s (.bool x2.1.1)), (T.ql 1 1 x2.1.2.1), (T.ql 1 1 x2.1.2.2), (T.s (.bool x6))])]), ()))))))))))))))))))))))
 else
  none)))
 else
  some (.inr (.exit 0 (p0.1, (p0.2.1, (p0.2.2.1, (p0.2.2.2.1, (p0.2.2.2.2.1, (p0.2.2.2.2.2.1, (p0.2.2.2.2.2.2.1, (p0.2.2.2.2.2.2.2.1, (p0.2.2.2.2.2.2.2.2.1, (p0.2.2.2.2.2.2.2.2.2.1, (p0.2.2.2.2.2.2.2.2.2.2.1, (p0.2.2.2.2.2.2.2.2.2.2.2.1, (p0.2.2.2.2.2.2.2.2.2.2.2.2.1, (p0.2.2.2.2.2.2.2.2.2.2.2.2.2.1, (p0.2.2.2.2.2.2.2.2.2.2.2.2.2.2.1, (p0.2.2.2.2.2.2.2.2.2.2.2.2.2.2.2.1, (p0.2.2.2.2.2.2.2.2.2.2.2.2.2.2.2.2.1, (p0.2.2.2.2.2.2.2.2.2.2.2.2.2.2.2.2.2.1, (p0.2.2.2.2.2.2.2.2.2.2.2.2.2.2.2.2.2.2.1, (p0.2.2.2.2.2.2.2.2.2.2.2.2.2.2.2.2.2.2.2.1, ())))))))))))))))))))))))
def lNear_l2 : ((List Int) × ((List Int) × ((List Bool) × (Int × ((List Su.Cc) × ((List Su.T) × ((List Su.T) × ((List Su.T) × ((List Su.T) × (Int × (Bool × (Bool × (Int × (Int × ((List Su.Ce) × (Bool × (Nat × (Bool × (Int × ((List Su.T) × Unit)))))))))))))))))))) → Option (((List Int) × ((List Int) × ((List Bool) × (Int × ((List Su.Cc) × ((List Su.T) × ((List Su.T) × ((List Su.T) × ((List Su.T) × (Int × (Bool × (Bool × (Int × (Int × ((List Su.Ce) × (Bool × (Nat × (Bool × (Int × ((List Su.T) × Unit)))))))))))))))))))) ⊕ (Lp ((List Int) × ((List Int) × ((List Bool) × (Int × ((List Su.Cc) × ((List Su.T) × ((List Su.T) × ((List Su.T) × ((List Su.T) × (Int × (Bool × (Bool × (Int × (Int × ((List Su.Ce) × (Bool × (Nat × (Bool × (Int × ((List Su.T) × Unit)))))))))))))))))))) Bool)) := fun p25 => (bif (decide ((p25.2.2.2.2.2.2.2.2.2.2.2.2.2.2.2.2.2.2.1 < (((List.length p25.1) : Nat) : Int)))) then
  ((Su.idx p25.2.1 p25.2.2.2.2.2.2.2.2.2.2.2.2.2.2.2.2.2.2.1)).bind fun x26 =>
  ((Su.PVal_s x26)).bind fun x27 =>
  ((Su.idx p25.1 p25.2.2.2.2.2.2.2.2.2.2.2.2.2.2.2.2.2.2.1)).bind fun x28 =>
  ((Su.PVal_s x28)).bind fun x29 =>
  (bif (!x27.2) then
  some (.inr (.ret p25.2.2.2.2.2.2.2.2.2.2.2.2.2.2.2.1))
 else
  (bif (!x29.2) then
  some (.inr (.ret p25.2.2.2.2.2.2.2.2.2.2.2.2.2.2.2.1))
 else
  ((Su.idx p25.1 p25.2.2.2.2.2.2.2.2.2.2.2.2.2.2.2.2.2.2.1)).bind fun x30 =>
  ((Su.idx p25.2.2.1 p25.2.2.2.2.2.2.2.2.2.2.2.2.2.2.2.2.2.2.1)).bind fun x31 =>
  (bif ((true && (Nat.beq p25.2.2.2.2.2.2.2.2.2.2.2.2.2.2.2.2.1 (List.length p25.2.2.2.2.2.2.2.2.2.2.2.2.2.2.2.2.2.2.2.1))) && (Nat.ble ((List.length p25.2.2.2.2.2.2.2.2.2.2.2.2.2.2.2.2.2.2.2.1) + (List.length [(T.agg [(T.s (.int .u8 3)), (T.s (.bool false)), (T.s (.int .i32 0)), (T.s (.int .u64 x30)), (T.s (.bool x27.1.1)), (T.ql 1 1 x27.1.2.1), (T.ql 1 1 x27.1.2.2), (T.s (.bool x31))])])) 549755813888)) then
  (bif p25.2.2.2.2.2.2.2.2.2.2.2.2.2.2.2.2.2.1 then
  ((Su.idx p25.2.2.2.2.1 p25.2.2.2.2.2.2.2.2.2.2.2.2.2.2.2.2.2.2.1)).bind fun x32 =>
  (bif (decide (((Su.Cc.type x32) = 3))) then
  ((Su.idx p25.2.2.2.2.2.2.2.2.2.2.2.2.2.2.1 p25.2.2.2.2.2.2.2.2.2.2.2.2.2.2.2.2.2.2.1)).bind fun x33 =>
  ((Su.PVal_s (Su.gdF (Su.Ce.sl x33)))).bind fun x34 =>
  (bif (!x34.2) then
  some (.inl (p25.1, (p25.2.1, (p25.2.2.1, (p25.2.2.2.1, (p25.2.2.2.2.1, (p25.2.2.2.2.2.1, (p25.2.2.2.2.2.2.1, (p25.2.2.2.2.2.2.2.1, (p25.2.2.2.2.2.2.2.2.1, (p25.2.2.2.2.2.2.2.2.2.1, (p25.2.2.2.2.2.2.2.2.2.2.1, (p25.2.2.2.2.2.2.2.2.2.2.2.1, (p25.2.2.2.2.2.2.2.2.2.2.2.2.1, (p25.2.2.2.2.2.2.2.2.2.2.2.2.2.1, (p25.2.2.2.2.2.2.2.2.2.2.2.2.2.2.1, (p25.2.2.2.2.2.2.2.2.2.2.2.2.2.2.2.1, ((List.length (p25.2.2.2.2.2.2.2.2.2.2.2.2.2.2.2.2.2.2.2.1 ++ [(T.agg [(T.s (.int .u8 3)), (T.s (.bool false)), (T.s (.int .i32 0)), (T.s (.int .u64 x30)), (T.s (.bool x27.1.1)), (T.ql 1 1 x27.1.2.1), (T.ql 1 1 x27.1.2.2), (T.s (.bool x31))])])), (true, ((Go.IntKind.wrap .i64 (p25.2.2.2.2.2.2.2.2.2.2.2.2.2.2.2.2.2.2.1 + 1)), ((p25.2.2.2.2.2.2.2.2.2.2.2.2.2.2.2.2.2.2.2.1 ++ [(T.agg [(T.s (.int .u8 3)), (T.s (.bool false)), (T.s (.int .i32 0)), (T.s (.int .u64 x30)), (T.s (.bool x27.1.1)), (T.ql 1 1 x27.1.2.1), (T.ql 1 1 x27.1.2.2), (T.s (.bool x31))])]), ())))))))))))))))))))))
 else
  ((Su.idx p25.2.2.1 p25.2.2.2.2.2.2.2.2.2.2.2.2.2.2.2.2.2.2.1)).bind fun x35 =>
  (bif x35 then
  ((Su.RSub_s ((x29.1.1, (x29.1.2.1, x29.1.2.2)), (x27.1.1, (x27.1.2.1, x27.1.2.2))))).bind fun x36 =>
  ((Su.RAbs_s (x36.1, (x36.2.1, x36.2.2)))).bind fun x37 =>
  ((Su.RCmp_s ((x37.1, (x37.2.1, x37.2.2)), (x34.1.1, (x34.1.2.1, x34.1.2.2))))).bind fun x38 =>
  some (.inl (p25.1, (p25.2.1, (p25.2.2.1, (p25.2.2.2.1, (p25.2.2.2.2.1, (p25.2.2.2.2.2.1, (p25.2.2.2.2.2.2.1, (p25.2.2.2.2.2.2.2.1, (p25.2.2.2.2.2.2.2.2.1, (p25.2.2.2.2.2.2.2.2.2.1, (p25.2.2.2.2.2.2.2.2.2.2.1, (p25.2.2.2.2.2.2.2.2.2.2.2.1, (p25.2.2.2.2.2.2.2.2.2.2.2.2.1, (p25.2.2.2.2.2.2.2.2.2.2.2.2.2.1, (p25.2.2.2.2.2.2.2.2.2.2.2.2.2.2.1, (p25.2.2.2.2.2.2.2.2.2.2.2.2.2.2.2.1, ((List.length (p25.2.2.2.2.2.2.2.2.2.2.2.2.2.2.2.2.2.2.2.1 ++ [(T.agg [(T.s (.int .u8 3)), (T.s (.bool false)), (T.s (.int .i32 0)), (T.s (.int .u64 x30)), (T.s (.bool x27.1.1)), (T.ql 1 1 x27.1.2.1), (T.ql 1 1 x27.1.2.2), (T.s (.bool x31))])])), ((decide ((x38 ≤ 0))), ((Go.IntKind.wrap .i64 (p25.2.2.2.2.2.2.2.2.2.2.2.2.2.2.2.2.2.2.1 + 1)), ((p25.2.2.2.2.2.2.2.2.2.2.2.2.2.2.2.2.2.2.2.1 ++ [(T.agg [(T.s (.int .u8 3)), (T.s (.bool false)), (T.s (.int .i32 0)), (T.s (.int .u64 x30)), (T.s (.bool x27.1.1)), (T.ql 1 1 x27.1.2.1), (T.ql 1 1 x27.1.2.2), (T.s (.bool x31))])]), ())))))))))))))))))))))
 else
  some (.inl (p25.1, (p25.2.1, (p25.2.2.1, (p25.2.2.2.1, (p25.2.2.2.2.1, (p25.2.2.2.2.2.1, (p25.2.2.2.2.2.2.1, (p25.2.2.2.2.2.2.2.1, (p25.2.2.2.2.2.2.2.2.1, (p25.2.2.2.2.2.2.2.2.2.1, (p25.2.2.2.2.2.2.2.2.2.2.1, (p25.2.2.2.2.2.2.2.2.2.2.2.1, (p25.2.2.2.2.2.2.2.2.2.2.2.2.1, (p25.2.2.2.2.2.2.2.2.2.2.2.2.2.1, (p25.2.2.2.2.2.2.2.2.2.2.2.2.2.2.1, (p25.2.2.2.2.2.2.2.2.2.2.2.2.2.2.2.1, ((List.length (p25.2.2.2.2.2.2.2.2.2.2.2.2.2.2.2.2.2.2.2.1 ++ [(T.agg [(T.s (.int .u8 3)), (T.s (.bool false)), (T.s (.int .i32 0)), (T.s (.int .u64 x30)), (T.s (.bool x27.1.1)), (T.ql 1 1 x27.1.2.1), (T.ql 1 1 x27.1.2.2), (T.s (.bool x31))])])), (false, ((Go.IntKind.wrap .i64 (p25.2.2.2.2.2.2.2.2.2.2.2.2.2.2.2.2.2.2.1 + 1)), ((p25.2.2.2.2.2.2.2.2.2.2.2.2.2.2.2.2.2.2.2.1 ++ [(T.agg [(T.s (.int .u8 3)), (T.s (.bool false)), (T.s (.int .i32 0)), (T.s (.int .u64 x30)), (T.s (.bool x27.1.1)), (T.ql 1 1 x27.1.2.1), (T.ql 1 1 x27.1.2.2), (T.s (.bool x31))])]), ())))))))))))))))))))))))
 else
  some (.inl (p25.1, (p25.2.1, (p25.2.2.1, (p25.2.2.2.1, (p25.2.2.2.2.1, (p25.2.2.2.2.2.1, (p25.2.2.2.2.2.2.1, (p25.2.2.2.2.2.2.2.1, (p25.2.2.2.2.2.2.2.2.1, (p25.2.2.2.2.2.2.2.2.2.1, (p25.2.2.2.2.2.2.2.2.2.2.1, (p25.2.2.2.2.2.2.2.2.2.2.2.1, (p25.2.2.2.2.2.2.2.2.2.2.2.2.1, (p25.2.2.2.2.2.2.2.2.2.2.2.2.2.1, (p25.2.2.2.2.2.2.2.2.2.2.2.2.2.2.1, (p25.2.2.2.2.2.2.2.2.2.2.2.2.2.2.2.1, ((List.length (p25.2.2.2.2.2.2.2.2.2.2.2.2.2.2.2.2.2.2.2.1 ++ [(T.agg [(T.s (.int .u8 3)), (T.s (.bool false)), (T.s (.int .i32 0)), (T.s (.int .u64 x30)), (T.s (.bool x27.1.1)), (T.ql 1 1 x27.1.2.1), (T.ql 1 1 x27.1.2.2), (T.s (.bool x31))])])), (p25.2.2.2.2.2.2.2.2.2.2.2.2.2.2.2.2.2.1, ((Go.IntKind.wrap .i64 (p25.2.2.2.2.2.2.2.2.2.2.2.2.2.2.2.2.2.2.1 + 1)), ((p25.2.2.2.2.2.2.2.2.2.2.2.2.2.2.2.2.2.2.2.1 ++ [(T.agg [(T.s (.int .u8 3)), (T.s (.bool false)), (T.s (.int .i32 0)), (T.s (.int .u64 x30)), (T.s (.bool x27.1.1)), (T.ql 1 1 x27.1.2.1), (T.ql 1 1 x27.1.2.2), (T.s (.bool x31))])]), ()))))))))))))))))))))))
 else
  some (.inl (p25.1, (p25.2.1, (p25.2.2.1, (p25.2.2.2.1, (p25.2.2.2.2.1, (p25.2.2.2.2.2.1, (p25.2.2.2.2.2.2.1, (p25.2.2.2.2.2.2.2.1, (p25.2.2.2.2.2.2.2.2.1, (p25.2.2.2.2.2.2.2.2.2.1, (p25.2.2.2.2.2.2.2.2.2.2.1, (p25.2.2.2.2.2.2.2.2.2.2.2.1, (p25.2.2.2.2.2.2.2.2.2.2.2.2.1, (p25.2.2.2.2.2.2.2.2.2.2.2.2.2.1, (p25.2.2.2.2.2.2.2.2.2.2.2.2.2.2.1, (p25.2.2.2.2.2.2.2.2.2.2.2.2.2.2.2.1, ((List.length (p25.2.2.2.2.2.2.2.2.2.2.2.2.2.2.2.2.2.2.2.1 ++ [(T.agg [(T.s (.int .u8 3)), (T.s (.bool false)), (T.s (.int .i32 0)), (T.s (.int .u64 x30)), (T.s (.bool x27.1.1)), (T.ql 1 1 x27.1.2.1), (T.ql 1 1 x27.1.2.2), (T.s (.bool x31))])])), (p25.2.2.2.2.2.2.2.2.2.2.2.2.2.2.2.2.2.1, ((Go.IntKind.wrap .i64 (p25.2.2.2.2.2.2.2.2.2.2.2.2.2.2.2.2.2.2.1 + 1)), ((p25.2.2.2.2.2.2.2.2.2.2.2.2.2.2.2.2.2.2.2.1 ++ [(T.agg [(T.s (.int .u8 3)), (T.s (.bool false)), (T.s (.int .i32 0)), (T.s (.int .u64 x30)), (T.s (.bool x27.1.1)), (T.ql 1 1 x27.1.2.1), (T.ql 1 1 x27.1.2.2), (T.s (.bool x31))])]), ()))))))))))))))))))))))
 else
  none)))
 else
  some (.inr (.exit 0 (p25.1, (p25.2.1, (p25.2.2.1, (p25.2.2.2.1, (p25.2.2.2.2.1, (p25.2.2.2.2.2.1, (p25.2.2.2.2.2.2.1, (p25.2.2.2.2.2.2.2.1, (p25.2.2.2.2.2.2.2.2.1, (p25.2.2.2.2.2.2.2.2.2.1, (p25.2.2.2.2.2.2.2.2.2.2.1, (p25.2.2.2.2.2.2.2.2.2.2.2.1, (p25.2.2.2.2.2.2.2.2.2.2.2.2.1, (p25.2.2.2.2.2.2.2.2.2.2.2.2.2.1, (p25.2.2.2.2.2.2.2.2.2.2.2.2.2.2.1, (p25.2.2.2.2.2.2.2.2.2.2.2.2.2.2.2.1, (p25.2.2.2.2.2.2.2.2.2.2.2.2.2.2.2.2.1, (p25.2.2.2.2.2.2.2.2.2.2.2.2.2.2.2.2.2.1, (p25.2.2.2.2.2.2.2.2.2.2.2.2.2.2.2.2.2.2.1, (p25.2.2.2.2.2.2.2.2.2.2.2.2.2.2.2.2.2.2.2.1, ())))))))))))))))))))))))
def lNear_l3 : ((List Int) × ((List Int) × ((List Bool) × (Int × ((List Su.Cc) × ((List Su.T) × ((List Su.T) × ((List Su.T) × ((List Su.T) × (Int × (Bool × (Bool × (Int × (Int × ((List Su.Ce) × (Bool × (Nat × (Bool × (Int × ((List Su.T) × Unit)))))))))))))))))))) → Option (((List Int) × ((List Int) × ((List Bool) × (Int × ((List Su.Cc) × ((List Su.T) × ((List Su.T) × ((List Su.T) × ((List Su.T) × (Int × (Bool × (Bool × (Int × (Int × ((List Su.Ce) × (Bool × (Nat × (Bool × (Int × ((List Su.T) × Unit)))))))))))))))))))) ⊕ (Lp ((List Int) × ((List Int) × ((List Bool) × (Int × ((List Su.Cc) × ((List Su.T) × ((List Su.T) × ((List Su.T) × ((List Su.T) × (Int × (Bool × (Bool × (Int × (Int × ((List Su.Ce) × (Bool × (Nat × (Bool × (Int × ((List Su.T) × Unit)))))))))))))))))))) Bool)) := fun p50 => (bif (decide ((p50.2.2.2.2.2.2.2.2.2.2.2.2.2.2.2.2.2.2.1 < (((List.length p50.1) : Nat) : Int)))) then
  ((Su.idx p50.2.1 p50.2.2.2.2.2.2.2.2.2.2.2.2.2.2.2.2.2.2.1)).bind fun x51 =>
  ((Su.PVal_s x51)).bind fun x52 =>
  ((Su.idx p50.1 p50.2.2.2.2.2.2.2.2.2.2.2.2.2.2.2.2.2.2.1)).bind fun x53 =>
  ((Su.PVal_s x53)).bind fun x54 =>
  (bif (!x52.2) then
  some (.inr (.ret p50.2.2.2.2.2.2.2.2.2.2.2.2.2.2.2.1))
 else
  (bif (!x54.2) then
  some (.inr (.ret p50.2.2.2.2.2.2.2.2.2.2.2.2.2.2.2.1))
 else
  ((Su.idx p50.1 p50.2.2.2.2.2.2.2.2.2.2.2.2.2.2.2.2.2.2.1)).bind fun x55 =>
  ((Su.idx p50.2.2.1 p50.2.2.2.2.2.2.2.2.2.2.2.2.2.2.2.2.2.2.1)).bind fun x56 =>
  (bif ((true && (Nat.beq p50.2.2.2.2.2.2.2.2.2.2.2.2.2.2.2.2.1 (List.length p50.2.2.2.2.2.2.2.2.2.2.2.2.2.2.2.2.2.2.2.1))) && (Nat.ble ((List.length p50.2.2.2.2.2.2.2.2.2.2.2.2.2.2.2.2.2.2.2.1) + (List.length [(T.agg [(T.s (.int .u8 3)), (T.s (.bool false)), (T.s (.int .i32 0)), (T.s (.int .u64 x55)), (T.s (.bool x52.1.1)), (T.ql 1 1 x52.1.2.1), (T.ql 1 1 x52.1.2.2), (T.s (.bool x56))])])) 549755813888)) then
  (bif p50.2.2.2.2.2.2.2.2.2.2.2.2.2.2.2.2.2.1 then
  ((Su.idx p50.2.2.2.2.1 p50.2.2.2.2.2.2.2.2.2.2.2.2.2.2.2.2.2.2.1)).bind fun x57 =>
  (bif (decide (((Su.Cc.type x57) = 3))) then
  ((Su.idx p50.2.2.2.2.2.2.2.2.2.2.2.2.2.2.1 p50.2.2.2.2.2.2.2.2.2.2.2.2.2.2.2.2.2.2.1)).bind fun x58 =>
  ((Su.PVal_s (Su.gdF (Su.Ce.sl x58)))).bind fun x59 =>
  (bif (!x59.2) then
  some (.inl (p50.1, (p50.2.1, (p50.2.2.1, (p50.2.2.2.1, (p50.2.2.2.2.1, (p50.2.2.2.2.2.1, (p50.2.2.2.2.2.2.1, (p50.2.2.2.2.2.2.2.1, (p50.2.2.2.2.2.2.2.2.1, (p50.2.2.2.2.2.2.2.2.2.1, (p50.2.2.2.2.2.2.2.2.2.2.1, (p50.2.2.2.2.2.2.2.2.2.2.2.1, (p50.2.2.2.2.2.2.2.2.2.2.2.2.1, (p50.2.2.2.2.2.2.2.2.2.2.2.2.2.1, (p50.2.2.2.2.2.2.2.2.2.2.2.2.2.2.1, (p50.2.2.2.2.2.2.2.2.2.2.2.2.2.2.2.1, ((List.length (p50.2.2.2.2.2.2.2.2.2.2.2.2.2.2.2.2.2.2.2.1 ++ [(T.agg [(T.s (.int .u8 3)), (T.s (.bool false)), (T.s (.int .i32 0)), (T.s (.int .u64 x55)), (T.s (.bool x52.1.1)), (T.ql 1 1 x52.1.2.1), (T.ql 1 1 x52.1.2.2), (T.s (.bool x56))])])), (true, ((Go.IntKind.wrap .i64 (p50.2.2.2.2.2.2.2.2.2.2.2.2.2.2.2.2.2.2.1 + 1)), ((p50.2.2.2.2.2.2.2.2.2.2.2.2.2.2.2.2.2.2.2.1 ++ [(T.agg [(T.s (.int .u8 3)), (T.s (.bool false)), (T.s (.int .i32 0)), (T.s (.int .u64 x55)), (T.s (.bool x52.1.1)), (T.ql 1 1 x52.1.2.1), (T.ql 1 1 x52.1.2.2), (T.s (.bool x56))])]), ())))))))))))))))))))))
 else
  ((Su.idx p50.2.2.1 p50.2.2.2.2.2.2.2.2.2.2.2.2.2.2.2.2.2.2.1)).bind fun x60 =>
  (bif x60 then
  ((Su.RSub_s ((x54.1.1, (x54.1.2.1, x54.1.2.2)), (x52.1.1, (x52.1.2.1, x52.1.2.2))))).bind fun x61 =>
  ((Su.RAbs_s (x61.1, (x61.2.1, x61.2.2)))).bind fun x62 =>
  ((Su.RCmp_s ((x62.1, (x62.2.1, x62.2.2)), (x59.1.1, (x59.1.2.1, x59.1.2.2))))).bind fun x63 =>
  some (.inl (p50.1, (p50.2.1, (p50.2.2.1, (p50.2.2.2.1, (p50.2.2.2.2.1, (p50.2.2.2.2.2.1, (p50.2.2.2.2.2.2.1, (p50.2.2.2.2.2.2.2.1, (p50.2.2.2.2.2.2.2.2.1, (p50.2.2.2.2.2.2.2.2.2.1, (p50.2.2.2.2.2.2.2.2.2.2.1, (p50.2.2.2.2.2.2.2.2.2.2.2.1, (p50.2.2.2.2.2.2.2.2.2.2.2.2.1, (p50.2.2.2.2.2.2.2.2.2.2.2.2.2.1, (p50.2.2.2.2.2.2.2.2.2.2.2.2.2.2.1, (p50.2.2.2.2.2.2.2.2.2.2.2.2.2.2.2.1, ((List.length (p50.2.2.2.2.2.2.2.2.2.2.2.2.2.2.2.2.2.2.2.1 ++ [(T.agg [(T.s (.int .u8 3)), (T.s (.bool false)), (T.s (.int .i32 0)), (T.s (.int .u64 x55)), (T.s (.bool x52.1.1)), (T.ql 1 1 x52.1.2.1), (T.ql 1 1 x52.1.2.2), (T.s (.bool x56))])])), ((decide ((x63 ≤ 0))), ((Go.IntKind.wrap .i64 (p50.2.2.2.2.2.2.2.2.2.2.2.2.2.2.2.2.2.2.1 + 1)), ((p50.2.2.2.2.2.2.2.2.2.2.2.2.2.2.2.2.2.2.2.1 ++ [(T.agg [(T.s (.int .u8 3)), (T.s (.bool false)), (T.s (.int .i32 0)), (T.s (.int .u64 x55)), (T.s (.bool x52.1.1)), (T.ql 1 1 x52.1.2.1), (T.ql 1 1 x52.1.2.2), (T.s (.bool x56))])]), ())))))))))))))))))))))
 else
  some (.inl (p50.1, (p50.2.1, (p50.2.2.1, (p50.2.2.2.1, (p50.2.2.2.2.1, (p50.2.2.2.2.2.1, (p50.2.2.2.2.2.2.1, (p50.2.2.2.2.2.2.2.1, (p50.2.2.2.2.2.2.2.2.1, (p50.2.2.2.2.2.2.2.2.2.1, (p50.2.2.2.2.2.2.2.2.2.2.1, (p50.2.2.2.2.2.2.2.2.2.2.2.1, (p50.2.2.2.2.2.2.2.2.2.2.2.2.1, (p50.2.2.2.2.2.2.2.2.2.2.2.2.2.1, (p50.2.2.2.2.2.2.2.2.2.2.2.2.2.2.1, (p50.2.2.2.2.2.2.2.2.2.2.2.2.2.2.2.1, ((List.length (p50.2.2.2.2.2.2.2.2.2.2.2.2.2.2.2.2.2.2.2.1 ++ [(T.agg [(T.s (.int .u8 3)), (T.s (.bool false)), (T.s (.int .i32 0)), (T.s (.int .u64 x55)), (T.s (.bool x52.1.1)), (T.ql 1 1 x52.1.2.1), (T.ql 1 1 x52.1.2.2), (T.s (.bool x56))])])), (false, ((Go.IntKind.wrap .i64 (p50.2.2.2.2.2.2.2.2.2.2.2.2.2.2.2.2.2.2.1 + 1)), ((p50.2.2.2.2.2.2.2.2.2.2.2.2.2.2.2.2.2.2.2.1 ++ [(T.agg [(T.s (.int .u8 3)), (T.s (.bool false)), (T.s (.int .i32 0)), (T.s (.int .u64 x55)), (T.s (.bool x52.1.1)), (T.ql 1 1 x52.1.2.1), (T.ql 1 1 x52.1.2.2), (T.s (.bool x56))])]), ())))))))))))))))))))))))
 else
  some (.inl (p50.1, (p50.2.1, (p50.2.2.1, (p50.2.2.2.1, (p50.2.2.2.2.1, (p50.2.2.2.2.2.1, (p50.2.2.2.2.2.2.1, (p50.2.2.2.2.2.2.2.1, (p50.2.2.2.2.2.2.2.2.1, (p50.2.2.2.2.2.2.2.2.2.1, (p50.2.2.2.2.2.2.2.2.2.2.1, (p50.2.2.2.2.2.2.2.2.2.2.2.1, (p50.2.2.2.2.2.2.2.2.2.2.2.2.1, (p50.2.2.2.2.2.2.2.2.2.2.2.2.2.1, (p50.2.2.2.2.2.2.2.2.2.2.2.2.2.2.1, (p50.2.2.2.2.2.2.2.2.2.2.2.2.2.2.2.1, ((List.length (p50.2.2.2.2.2.2.2.2.2.2.2.2.2.2.2.2.2.2.2.1 ++ [(T.agg [(T.s (.int .u8 3)), (T.s (.bool false)), (T.s (.int .i32 0)), (T.s (.int .u64 x55)), (T.s (.bool x52.1.1)), (T.ql 1 1 x52.1.2.1), (T.ql 1 1 x52.1.2.2), (T.s (.bool x56))])])), (p50.2.2.2.2.2.2.2.2.2.2.2.2.2.2.2.2.2.1, ((Go.IntKind.wrap .i64 (p50.2.2.2.2.2.2.2.2.2.2.2.2.2.2.2.2.2.2.1 + 1)), ((p50.2.2.2.2.2.2.2.2.2.2.2.2.2.2.2.2.2.2.2.1 ++ [(T.agg [(T.s (.int .u8 3)), (T.s (.bool false)), (T.s (.int .i32 0)), (T.s (.int .u64 x55)), (T.s (.bool x52.1.1)), (T.ql 1 1 x52.1.2.1), (T.ql 1 1 x52.1.2.2), (T.s (.bool x56))])]), ()))))))))))))))))))))))
 else
  some (.inl (p50.1, (p50.2.1, (p50.2.2.1, (p50.2.2.2.1, (p50.2.2.2.2.1, (p50.2.2.2.2.2.1, (p50.2.2.2.2.2.2.1, (p50.2.2.2.2.2.2.2.1, (p50.2.2.2.2.2.2.2.2.1, (p50.2.2.2.2.2.2.2.2.2.1, (p50.2.2.2.2.2.2.2.2.2.2.1, (p50.2.2.2.2.2.2.2.2.2.2.2.1, (p50.2.2.2.2.2.2.2.2.2.2.2.2.1, (p50.2.2.2.2.2.2.2.2.2.2.2.2.2.1, (p50.2.2.2.2.2.2.2.2.2.2.2.2.2.2.1, (p50.2.2.2.2.2.2.2.2.2.2.2.2.2.2.2.1, ((List.length (p50.2.2.2.2.2.2.2.2.2.2.2.2.2.2.2.2.2.2.2.1 ++ [(T.agg [(T.s (.int .u8 3)), (T.s (.bool false)), (T.s (.int .i32 0)), (T.s (.int .u64 x55)), (T.s (.bool x52.1.1)), (T.ql 1 1 x52.1.2.1), (T.ql 1 1 x52.1.2.2), (T.s (.bool x56))])])), (p50.2.2.2.2.2.2.2.2.2.2.2.2.2.2.2.2.2.1, ((Go.IntKind.wrap .i64 (p50.2.2.2.2.2.2.2.2.2.2.2.2.2.2.2.2.2.2.1 + 1)), ((p50.2.2.2.2.2.2.2.2.2.2.2.2.2.2.2.2.2.2.2.1 ++ [(T.agg [(T.s (.int .u8 3)), (T.s (.bool false)), (T.s (.int .i32 0)), (T.s (.int .u64 x55)), (T.s (.bool x52.1.1)), (T.ql 1 1 x52.1.2.1), (T.ql 1 1 x52.1.2.2), (T.s (.bool x56))])]), ()))))))))))))))))))))))
 else
  none)))
 else
  some (.inr (.exit 0 (p50.1, (p50.2.1, (p50.2.2.1, (p50.2.2.2.1, (p50.2.2.2.2.1, (p50.2.2.2.2.2.1, (p50.2.2.2.2.2.2.1, (p50.2.2.2.2.2.2.2.1, (p50.2.2.2.2.2.2.2.2.1, (p50.2.2.2.2.2.2.2.2.2.1, (p50.2.2.2.2.2.2.2.2.2.2.1, (p50.2.2.2.2.2.2.2.2.2.2.2.1, (p50.2.2.2.2.2.2.2.2.2.2.2.2.1, (p50.2.2.2.2.2.2.2.2.2.2.2.2.2.1, (p50.2.2.2.2.2.2.2.2.2.2.2.2.2.2.1, (p50.2.2.2.2.2.2.2.2.2.2.2.2.2.2.2.1, (p50.2.2.2.2.2.2.2.2.2.2.2.2.2.2.2.2.1, (p50.2.2.2.2.2.2.2.2.2.2.2.2.2.2.2.2.2.1, (p50.2.2.2.2.2.2.2.2.2.2.2.2.2.2.2.2.2.2.1, (p50.2.2.2.2.2.2.2.2.2.2.2.2.2.2.2.2.2.2.2.1, ())))))))))))))))))))))))
def lNear  (fu : Nat) (c : (Int × ((List Su.Cc) × ((List Su.T) × ((List Su.T) × ((List Su.T) × ((List Su.T) × Int))))))) (s : (Bool × (Bool × (Int × (Int × (List Su.Ce)))))) (floats : (List Int)) (reals : (List Int)) (known : (List Bool)) : Option Bool :=
  (bif (Su.heavyS (c.1, (c.2.1, (c.2.2.1, (c.2.2.2.1, (c.2.2.2.2.1, (c.2.2.2.2.2.1, c.2.2.2.2.2.2)))))) [(s.1, (s.2.1, (s.2.2.1, (s.2.2.2.1, s.2.2.2.2))))]) then
  some true
 else
  (bif (decide ((40 < (((List.length floats) : Nat) : Int)))) then
  some true
 else
  (bif (!(decide (((((List.length reals) : Nat) : Int) = (((List.length floats) : Nat) : Int))))) then
  some true
 else
  (bif (!(decide (((((List.length known) : Nat) : Int) = (((List.length floats) : Nat) : Int))))) then
  some true
 else
  (bif (!s.1) then
  (bif (decide (((((List.length s.2.2.2.2) : Nat) : Int) = (((List.length c.2.1) : Nat) : Int)))) then
  (itP fu (lNear_l1) (floats, (reals, (known, (c.1, (c.2.1, (c.2.2.1, (c.2.2.2.1, (c.2.2.2.2.1, (c.2.2.2.2.2.1, (c.2.2.2.2.2.2, (s.1, (s.2.1, (s.2.2.1, (s.2.2.2.1, (s.2.2.2.2, (true, (0, ((decide (((((List.length floats) : Nat) : Int) = (((List.length c.2.1) : Nat) : Int)))), ((0 : Int), ([], ()))))))))))))))))))))).bind fun x14 =>
  (match x14 with
 | .exit i15 p16 => (bif (Nat.beq i15 0) then
  (bif p16.2.2.2.2.2.2.2.2.2.2.2.2.2.2.2.1 then
  ((Su.sub p16.2.2.2.2.2.2.2.2.2.2.2.2.2.2.2.2.2.2.2.1 0 p16.2.2.2.2.2.2.2.2.2.2.2.2.2.2.2.2.1)).bind fun x17 =>
  ((Su.sub p16.2.2.2.2.2.2.2.2.2.2.2.2.2.2.2.2.2.2.2.1 0 p16.2.2.2.2.2.2.2.2.2.2.2.2.2.2.2.2.1)).bind fun x18 =>
  ((Su.sub p16.2.2.2.2.2.2.2.2.2.2.2.2.2.2.2.2.2.2.2.1 0 p16.2.2.2.2.2.2.2.2.2.2.2.2.2.2.2.2.1)).bind fun x19 =>
  (((((Su.unR (Su.rPr) x17)).bind fun x20 =>
  some ((p16.2.2.2.2.2.2.2.2.2.2.1, (p16.2.2.2.2.2.2.2.2.2.2.2.1, (p16.2.2.2.2.2.2.2.2.2.2.2.2.1, (p16.2.2.2.2.2.2.2.2.2.2.2.2.2.1, p16.2.2.2.2.2.2.2.2.2.2.2.2.2.2.1)))), x20)).bind fun x21 =>
  some ((p16.2.2.2.1, (p16.2.2.2.2.1, (p16.2.2.2.2.2.1, (p16.2.2.2.2.2.2.1, (p16.2.2.2.2.2.2.2.1, (p16.2.2.2.2.2.2.2.2.1, p16.2.2.2.2.2.2.2.2.2.1)))))), x21)).bind fun x22 =>
  (bif (List.all x22.2.2 (Su.okP)) then
  some (Su.nearS x22.1 x22.2.1 x22.2.2)
 else
  none)).bind fun x23 =>
  some (decide ((x23 = p16.2.2.2.2.2.2.2.2.2.2.2.2.2.2.2.2.2.1)))
 else
  some false)
 else
  none)
 | .ret o24 => some o24)
 else
  (itP fu (lNear_l2) (floats, (reals, (known, (c.1, (c.2.1, (c.2.2.1, (c.2.2.2.1, (c.2.2.2.2.1, (c.2.2.2.2.2.1, (c.2.2.2.2.2.2, (s.1, (s.2.1, (s.2.2.1, (s.2.2.2.1, (s.2.2.2.2, (true, (0, (false, ((0 : Int), ([], ()))))))))))))))))))))).bind fun x39 =>
  (match x39 with
 | .exit i40 p41 => (bif (Nat.beq i40 0) then
  (bif p41.2.2.2.2.2.2.2.2.2.2.2.2.2.2.2.1 then
  ((Su.sub p41.2.2.2.2.2.2.2.2.2.2.2.2.2.2.2.2.2.2.2.1 0 p41.2.2.2.2.2.2.2.2.2.2.2.2.2.2.2.2.1)).bind fun x42 =>
  ((Su.sub p41.2.2.2.2.2.2.2.2.2.2.2.2.2.2.2.2.2.2.2.1 0 p41.2.2.2.2.2.2.2.2.2.2.2.2.2.2.2.2.1)).bind fun x43 =>
  ((Su.sub p41.2.2.2.2.2.2.2.2.2.2.2.2.2.2.2.2.2.2.2.1 0 p41.2.2.2.2.2.2.2.2.2.2.2.2.2.2.2.2.1)).bind fun x44 =>
  (((((Su.unR (Su.rPr) x42)).bind fun x45 =>
  some ((p41.2.2.2.2.2.2.2.2.2.2.1, (p41.2.2.2.2.2.2.2.2.2.2.2.1, (p41.2.2.2.2.2.2.2.2.2.2.2.2.1, (p41.2.2.2.2.2.2.2.2.2.2.2.2.2.1, p41.2.2.2.2.2.2.2.2.2.2.2.2.2.2.1)))), x45)).bind fun x46 =>
  some ((p41.2.2.2.1, (p41.2.2.2.2.1, (p41.2.2.2.2.2.1, (p41.2.2.2.2.2.2.1, (p41.2.2.2.2.2.2.2.1, (p41.2.2.2.2.2.2.2.2.1, p41.2.2.2.2.2.2.2.2.2.1)))))), x46)).bind fun x47 =>
  (bif (List.all x47.2.2 (Su.okP)) then
  some (Su.nearS x47.1 x47.2.1 x47.2.2)
 else
  none)).bind fun x48 =>
  some (decide ((x48 = p41.2.2.2.2.2.2.2.2.2.2.2.2.2.2.2.2.2.1)))
 else
  some false)
 else
  none)
 | .ret o49 => some o49))
 else
  (itP fu (lNear_l3) (floats, (reals, (known, (c.1, (c.2.1, (c.2.2.1, (c.2.2.2.1, (c.2.2.2.2.1, (c.2.2.2.2.2.1, (c.2.2.2.2.2.2, (s.1, (s.2.1, (s.2.2.1, (s.2.2.2.1, (s.2.2.2.2, (true, (0, (false, ((0 : Int), ([], ()))))))))))))))))))))).bind fun x64 =>
  (match x64 with
 | .exit i65 p66 => (bif (Nat.beq i65 0) then
  (bif p66.2.2.2.2.2.2.2.2.2.2.2.2.2.2.2.1 then
  ((Su.sub p66.2.2.2.2.2.2.2.2.2.2.2.2.2.2.2.2.2.2.2.1 0 p66.2.2.2.2.2.2.2.2.2.2.2.2.2.2.2.2.1)).bind fun x67 =>
  ((Su.sub p66.2.2.2.2.2.2.2.2.2.2.2.2.2.2.2.2.2.2.2.1 0 p66.2.2.2.2.2.2.2.2.2.2.2.2.2.2.2.2.1)).bind fun x68 =>
  ((Su.sub p66.2.2.2.2.2.2.2.2.2.2.2.2.2.2.2.2.2.2.2.1 0 p66.2.2.2.2.2.2.2.2.2.2.2.2.2.2.2.2.1)).bind fun x69 =>
  (((((Su.unR (Su.rPr) x67)).bind fun x70 =>
  some ((p66.2.2.2.2.2.2.2.2.2.2.1, (p66.2.2.2.2.2.2.2.2.2.2.2.1, (p66.2.2.2.2.2.2.2.2.2.2.2.2.1, (p66.2.2.2.2.2.2.2.2.2.2.2.2.2.1, p66.2.2.2.2.2.2.2.2.2.2.2.2.2.2.1)))), x70)).bind fun x71 =>
  some ((p66.2.2.2.1, (p66.2.2.2.2.1, (p66.2.2.2.2.2.1, (p66.2.2.2.2.2.2.1, (p66.2.2.2.2.2.2.2.1, (p66.2.2.2.2.2.2.2.2.1, p66.2.2.2.2.2.2.2.2.2.1)))))), x71)).bind fun x72 =>
  (bif (List.all x72.2.2 (Su.okP)) then
  some (Su.nearS x72.1 x72.2.1 x72.2.2)
 else
  none)).bind fun x73 =>
  some (decide ((x73 = p66.2.2.2.2.2.2.2.2.2.2.2.2.2.2.2.2.2.1)))
 else
  some false)
 else
  none)
 | .ret o74 => some o74))))))
def prOf (f r : Int) (k : Bool) : Su.Pr := ⟨⟨3, false, 0, f⟩, (valR r.toNat).1, (valR r.toNat).2.1, (valR r.toNat).2.2, k⟩
def viewP (p : Su.Pr) : T := .agg [.s (.int .u8 p.v.type), .s (.bool p.v.b), .s (.int .i32 p.v.i), .s (.int .u64 p.v.f), .s (.bool p.neg), .ql 1 1 p.num, .ql 1 1 p.den, .s (.bool p.known)]
theorem unR_vp (P : List Su.Pr) : unR rPr (P.map viewP) = some P := unR_map rPr P
abbrev LnS := List Int × (List Int × (List Bool × (Int × (List Su.Cc × (List Su.T × (List Su.T × (List Su.T × (List Su.T × (Int × (Bool × (Bool × (Int × (Int × (List Su.Ce × (Bool × (Nat × (Bool × (Int × (List Su.T × Unit)))))))))))))))))))
def lnMk (c : CoD) (s : StD) (fl re : List Int) (kn : List Bool) (P : List Su.Pr) (w : Bool) (i : Int) : LnS :=
  (fl, (re, (kn, (c.1, (c.2.1, (c.2.2.1, (c.2.2.2.1, (c.2.2.2.2.1, (c.2.2.2.2.2.1, (c.2.2.2.2.2.2, (s.1, (s.2.1, (s.2.2.1, (s.2.2.2.1, (s.2.2.2.2, (true, (P.length, (w, (i, (P.map viewP, ()))))))))))))))))))))
def nearQ (c : CoD) (s : StD) (fl re : List Int) (kn : List Bool) (i : Nat) : Bool :=
  match c.2.1[i]?, s.2.2.2.2[i]?, fl[i]?, re[i]?, kn[i]? with
  | some d, some x, some f, some r, some k => nearC d.type x.sl (prOf f r k)
  | _, _, _, _, _ => true
theorem allN_succ (n : Nat) (f : Nat → Bool) : allN (n + 1) f = (allN n f && f n) := by
  unfold allN
  rw [List.range_succ, List.all_append]; simp
theorem prOf_ok (f r : Int) (k : Bool) : okP (prOf f r k) = true := by
  have h := valR_sz r.toNat
  unfold okP prOf
  rw [Nat.ble_eq_true_of_le (Nat.le_trans h.ln (by omega)), Nat.ble_eq_true_of_le (Nat.le_trans h.ld (by omega))]; rfl
structure LnInv (c : CoD) (s : StD) (fl re : List Int) (kn : List Bool) (w0 : Bool) (i : Nat) (P : List Su.Pr) (w : Bool) : Prop where
  len : P.length = i
  row : ∀ k, k < i → ∃ f r b, fl[k]? = some f ∧ re[k]? = some r ∧ kn[k]? = some b ∧ P[k]? = some (prOf f r b)
  num : ∀ k, k < i → ∀ f, fl[k]? = some f → noNum f.toNat = false
  want : w = (w0 && allN i (nearQ c s fl re kn))
theorem ln_step (c : CoD) (s : StD) (fl re : List Int) (kn : List Bool) (w0 : Bool) (h1 : re.length = fl.length) (h2 : kn.length = fl.length) (h3 : fl.length ≤ 40) (hw : w0 = true → s.2.2.2.2.length = c.2.1.length ∧ fl.length = c.2.1.length)
    (i : Nat) (P : List Su.Pr) (w : Bool) (hf : i < fl.length) (inv : LnInv c s fl re kn w0 i P w) (e1 : noNum (re[i]'(by omega)).toNat = false) (e2 : noNum fl[i].toNat = false) :
    lNear_l1 (lnMk c s fl re kn P w i) = some (.inl (lnMk c s fl re kn (P ++ [prOf fl[i] (re[i]'(by omega)) (kn[i]'(by omega))]) (w && nearQ c s fl re kn i) ((i + 1 : Nat) : Int))) := by
    have hr : i < re.length := by omega
    have hk : i < kn.length := by omega
    have eP : (P.map viewP ++ [(T.agg [(T.s (.int .u8 3)), (T.s (.bool false)), (T.s (.int .i32 0)), (T.s (.int .u64 fl[i])), (T.s (.bool (valR re[i].toNat).1)), (T.ql 1 1 (valR re[i].toNat).2.1), (T.ql 1 1 (valR re[i].toNat).2.2), (T.s (.bool kn[i]))])]) = (P ++ [prOf fl[i] re[i] kn[i]]).map viewP := by
      rw [List.map_append]; rfl
    have hb : Nat.ble (P.length + 1) 549755813888 = true := by
      rw [inv.len]; exact Nat.ble_eq_true_of_le (by omega)
    unfold lnMk
    simp only [lNear_l1, ltN, decide_eq_true hf, cond_true, cond_false, ixl hr, ixl hf, ixl hk, Option.bind_some, PVal_of, e1, e2, Bool.not_true, eP, w1 hf (by rw [maxLen_eq]; omega : fl.length ≤ maxLen), List.length_map, List.length_cons, List.length_nil, Nat.zero_add, nbeq, hb, Bool.and_self]
    cases hww : w with
    | false => rfl
    | true =>
      have hw0 : w0 = true := by
        have := inv.want; rw [hww] at this
        cases w0 with
        | true => rfl
        | false => simp at this
      obtain ⟨k1, k2⟩ := hw hw0
      have hc : i < c.2.1.length := by omega
      have hs : i < s.2.2.2.2.length := by omega
      have hq : nearQ c s fl re kn i = nearC c.2.1[i].type s.2.2.2.2[i].sl (prOf fl[i] re[i] kn[i]) := by
        unfold nearQ
        rw [List.getElem?_eq_getElem hf, List.getElem?_eq_getElem hr, List.getElem?_eq_getElem hk, List.getElem?_eq_getElem hc, List.getElem?_eq_getElem hs]
      rw [hq]
      simp only [cond_true, ixl hc, ixl hs, Option.bind_some]
      unfold nearC
      generalize s.2.2.2.2[i] = x
      generalize c.2.1[i] = d
      cases decide (d.type = 3) with
      | false => rfl
      | true =>
        cases hn : noNum (gdF x.sl).toNat with
        | true => rfl
        | false =>
          simp only [cond_true, cond_false]
          simp only [Bool.not_true, Bool.not_false]
          simp only [cond_true, cond_false]
          have ek : (prOf fl[i] re[i] kn[i]).known = kn[i] := rfl
          have ef : (prOf fl[i] re[i] kn[i]).v.f = fl[i] := rfl
          rw [ek, ef, e2]
          cases kn[i] with
          | false => rfl
          | true =>
            have hz : Sz ((valR re[i].toNat).1, ((valR re[i].toNat).2.1, (valR re[i].toNat).2.2)) 100000 := (valR_sz re[i].toNat).mono (by omega)
            obtain ⟨a1, a2⟩ := sub_of ((valR_sz fl[i].toNat).mono (by omega)) hz
            obtain ⟨b1, b2⟩ := abs_of a2
            have c1 := cmp_of (b2.mono (by omega)) ((valR_sz (gdF x.sl).toNat).mono (by omega : 66 ≤ 400000))
            refine obB a1 (obB b1 (obB c1 ?_))
            have er : (prOf fl[i] re[i] true).real = ((valR re[i].toNat).1, ((valR re[i].toNat).2.1, (valR re[i].toNat).2.2)) := rfl
            have el : ∀ z : Int, decide (z ≤ 0) = !decide (0 < z) := by
              intro z
              by_cases h : z ≤ 0
              · rw [decide_eq_true h, decide_eq_false (by omega)]; rfl
              · rw [decide_eq_false h, decide_eq_true (by omega)]; rfl
            rw [er, el]
            rfl
theorem ln_loop (c : CoD) (s : StD) (fl re : List Int) (kn : List Bool) (w0 : Bool) (h1 : re.length = fl.length) (h2 : kn.length = fl.length) (h3 : fl.length ≤ 40) (hw : w0 = true → s.2.2.2.2.length = c.2.1.length ∧ fl.length = c.2.1.length) :
    ∀ (j i : Nat) (P : List Su.Pr) (w : Bool), i + j = fl.length → LnInv c s fl re kn w0 i P w → ∃ r, Runs (j + 1) lNear_l1 (lnMk c s fl re kn P w i) r ∧ (r = .ret true ∨ ∃ P' w', r = .exit 0 (lnMk c s fl re kn P' w' fl.length) ∧ LnInv c s fl re kn w0 fl.length P' w')
  | 0, i, P, w, hi, inv => by
    have : i = fl.length := by omega
    subst this
    refine ⟨_, Runs.stop ?_, .inr ⟨P, w, rfl, inv⟩⟩
    unfold lnMk
    simp only [lNear_l1, ltN, decide_eq_false (Nat.lt_irrefl _), cond_false]
  | j + 1, i, P, w, hi, inv => by
    have hf : i < fl.length := by omega
    have hr : i < re.length := by omega
    have hk : i < kn.length := by omega
    cases e1 : noNum re[i].toNat with
    | true =>
      refine ⟨_, Runs.stop (r := .ret true) ?_, .inl rfl⟩
      unfold lnMk
      simp only [lNear_l1, ltN, decide_eq_true hf, cond_true, ixl hr, ixl hf, Option.bind_some, PVal_of, e1, Bool.not_false]
    | false =>
    cases e2 : noNum fl[i].toNat with
    | true =>
      refine ⟨_, Runs.stop (r := .ret true) ?_, .inl rfl⟩
      unfold lnMk
      simp only [lNear_l1, ltN, decide_eq_true hf, cond_true, cond_false, ixl hr, ixl hf, Option.bind_some, PVal_of, e1, e2, Bool.not_false, Bool.not_true]
    | false =>
    have inv' : LnInv c s fl re kn w0 (i + 1) (P ++ [prOf fl[i] re[i] kn[i]]) (w && nearQ c s fl re kn i) := by
      refine ⟨by simp [inv.len], fun k hk' => ?_, fun k hk' f hf' => ?_, ?_⟩
      · by_cases e : k = i
        · subst e
          exact ⟨_, _, _, List.getElem?_eq_getElem hf, List.getElem?_eq_getElem hr, List.getElem?_eq_getElem hk, by rw [List.getElem?_append_right (by rw [inv.len]; omega), inv.len]; simp⟩
        · obtain ⟨f, r, b, a1, a2, a3, a4⟩ := inv.row k (by omega)
          exact ⟨f, r, b, a1, a2, a3, by rw [List.getElem?_append_left (by rw [inv.len]; omega)]; exact a4⟩
      · by_cases e : k = i
        · subst e
          rw [List.getElem?_eq_getElem hf] at hf'
          have := soi hf'; subst this; exact e2
        · exact inv.num k (by omega) f hf'
      · rw [inv.want, allN_succ, Bool.and_assoc]
    obtain ⟨r, hrun, hres⟩ := ln_loop c s fl re kn w0 h1 h2 h3 hw j (i + 1) _ _ (by omega) inv'
    refine ⟨r, Runs.next ?_ hrun, hres⟩
    exact ln_step c s fl re kn w0 h1 h2 h3 hw i P w hf inv e1 e2
def lNear_s (_ : CoD × (StD × (List Int × (List Int × List Bool)))) : Option Bool := some true
theorem lNear_ok (a : CoD × (StD × (List Int × (List Int × List Bool)))) (y : Bool) (hg : (dc cCo (dc cSt (dc (cQ 2 1) (dc (cQ 2 1) (d1 (cQ 4 1)))))).good a) (h : lNear_s a = some y) : ∃ n, lNear n a.1 a.2.1 a.2.2.1 a.2.2.2.1 a.2.2.2.2 = some y := by
  obtain ⟨c, s, fl, re, kn⟩ := a
  have := soi h; subst this
  show ∃ n, lNear n c s fl re kn = some true
  unfold lNear
  cases heavyS (c.1, (c.2.1, (c.2.2.1, (c.2.2.2.1, (c.2.2.2.2.1, (c.2.2.2.2.2.1, c.2.2.2.2.2.2)))))) [(s.1, (s.2.1, (s.2.2.1, (s.2.2.2.1, s.2.2.2.2))))] with
  | true => exact ⟨0, rfl⟩
  | false =>
  simp only [cond_false]
  have hI : ∀ a b : Nat, decide ((a : Int) = (b : Int)) = decide (a = b) := nat_eq
  simp only [hI]
  by_cases h3 : 40 < (fl.length : Int)
  · rw [decide_eq_true h3]; exact ⟨0, rfl⟩
  by_cases h1 : re.length = fl.length
  · by_cases h2 : kn.length = fl.length
    · rw [decide_eq_false h3, decide_eq_true h1, decide_eq_true h2]
      simp only [cond_false, Bool.not_true]
      have e2 : lNear_l2 = lNear_l1 := rfl
      have e3 : lNear_l3 = lNear_l1 := rfl
      rw [e2, e3]
      have go : ∀ w0, w0 = (!s.1 && (decide (s.2.2.2.2.length = c.2.1.length) && decide (fl.length = c.2.1.length))) → ∃ r, itP (fl.length + 1) lNear_l1 (lnMk c s fl re kn [] w0 ((0 : Nat) : Int)) = some r ∧ (r = .ret true ∨ ∃ P' w', r = .exit 0 (lnMk c s fl re kn P' w' fl.length) ∧ unR rPr (P'.map viewP) = some P' ∧ sub (P'.map viewP) 0 P'.length = some (P'.map viewP) ∧ P'.all okP = true ∧ decide (nearS c s P' = w') = true) := by
        intro w0 hw0
        have hw : w0 = true → s.2.2.2.2.length = c.2.1.length ∧ fl.length = c.2.1.length := by
          intro h
          rw [h] at hw0
          cases hd : s.1 with
          | true => rw [hd] at hw0; simp at hw0
          | false =>
            rw [hd] at hw0
            simpa using hw0.symm
        obtain ⟨r, hrun, hres⟩ := ln_loop c s fl re kn w0 h1 h2 (by omega) hw fl.length 0 [] w0 (by omega) ⟨rfl, fun k hk => by omega, fun k hk => by omega, by simp [allN]⟩
        refine ⟨r, hrun _ (Nat.le_refl _), ?_⟩
        rcases hres with h | ⟨P', w', e, inv⟩
        · exact .inl h
        · refine .inr ⟨P', w', e, unR_vp P', ?_, ?_, ?_⟩
          · unfold sub
            rw [show Nat.ble (0 + P'.length) (P'.map viewP).length = true from Nat.ble_eq_true_of_le (by simp), cond_true]
            congr 1
            rw [List.drop_zero]
            exact List.take_of_length_le (by simp)
          · refine List.all_eq_true.2 fun p hp => ?_
            obtain ⟨k, hk, e⟩ := List.mem_iff_getElem.1 hp
            obtain ⟨f, r, b, -, -, -, a4⟩ := inv.row k (by rw [← inv.len]; exact hk)
            rw [List.getElem?_eq_getElem hk] at a4
            rw [← e, soi a4]; exact prOf_ok f r b
          · refine decide_eq_true ?_
            rw [inv.want, hw0]
            unfold nearS
            cases hd : s.1 with
            | true => rfl
            | false =>
              rw [inv.len]
              by_cases k1 : s.2.2.2.2.length = c.2.1.length
              · by_cases k2 : fl.length = c.2.1.length
                · rw [decide_eq_true k1, decide_eq_true k2]
                  simp only [Bool.not_true, Bool.not_false, cond_false, Bool.true_and]
                  rw [k2]
                  refine allN_congr fun k hk0 => ?_
                  have hk : k < c.2.1.length := hk0
                  obtain ⟨f, r, b, a1, a2, a3, a4⟩ := inv.row k (by omega)
                  unfold nearN nearQ
                  rw [a1, a2, a3, a4, List.getElem?_eq_getElem hk, List.getElem?_eq_getElem (show k < s.2.2.2.2.length by omega)]
                · rw [decide_eq_true k1, decide_eq_false k2]; rfl
              · rw [decide_eq_false k1]; rfl
      refine ⟨fl.length + 1, ?_⟩
      have fin : ∀ (w0 : Bool) (o : Option (Lp LnS Bool)) (k : Lp LnS Bool → Option Bool), (∀ P' w', unR rPr (P'.map viewP) = some P' → sub (P'.map viewP) 0 P'.length = some (P'.map viewP) → P'.all okP = true → decide (nearS c s P' = w') = true → k (.exit 0 (lnMk c s fl re kn P' w' fl.length)) = some true) → k (.ret true) = some true →
          w0 = (!s.1 && (decide (s.2.2.2.2.length = c.2.1.length) && decide (fl.length = c.2.1.length))) → itP (fl.length + 1) lNear_l1 (lnMk c s fl re kn [] w0 ((0 : Nat) : Int)) = o → o.bind k = some true := by
        intro w0 o k k1 k2 hw0 ho
        obtain ⟨r, hr, hres⟩ := go w0 hw0
        rw [hr] at ho
        subst ho
        rcases hres with h | ⟨P', w', e, a1, a2, a3, a4⟩
        · subst h; exact k2
        · subst e; exact k1 P' w' a1 a2 a3 a4
      have fini : ∀ (P' : List Su.Pr) (w' : Bool), unR rPr (P'.map viewP) = some P' → sub (P'.map viewP) 0 P'.length = some (P'.map viewP) → P'.all okP = true → decide (nearS c s P' = w') = true →
          ((sub (P'.map viewP) 0 P'.length).bind fun x17 => (sub (P'.map viewP) 0 P'.length).bind fun _ => (sub (P'.map viewP) 0 P'.length).bind fun _ =>
            ((((unR rPr x17).bind fun x20 => some (s, x20)).bind fun x21 => some (c, x21)).bind fun x22 => bif List.all x22.2.2 okP then some (nearS x22.1 x22.2.1 x22.2.2) else none).bind fun x23 => some (decide (x23 = w'))) = some true := by
        intro P' w' a1 a2 a3 a4
        refine obB a2 (obB a2 (obB a2 (obB (x := nearS c s P') (obB (obB (obB a1 rfl) rfl) ?_) ?_)))
        · show (bif List.all P' okP then some (nearS c s P') else none) = _
          rw [show List.all P' okP = true from a3]; rfl
        · exact congrArg some a4
      cases hd : s.1 with
      | false =>
        have fin := fun w0 o k => fin w0 o k
        rw [hd] at fin
        simp only [Bool.not_false, cond_true, Bool.true_and] at fin ⊢
        by_cases k1 : s.2.2.2.2.length = c.2.1.length
        · rw [decide_eq_true k1] at fin ⊢
          rw [cond_true]
          exact fin (decide (fl.length = c.2.1.length)) _ _ (fun P' w' a1 a2 a3 a4 => fini P' w' a1 a2 a3 a4) rfl (Bool.true_and _).symm (by unfold lnMk; rw [hd]; rfl)
        · rw [decide_eq_false k1] at fin ⊢
          rw [cond_false]
          exact fin false _ _ (fun P' w' a1 a2 a3 a4 => fini P' w' a1 a2 a3 a4) rfl (Bool.false_and _).symm (by unfold lnMk; rw [hd]; rfl)
      | true =>
        rw [hd] at fin
        simp only [Bool.not_true, cond_false, Bool.false_and] at fin ⊢
        exact fin false _ _ (fun P' w' a1 a2 a3 a4 => fini P' w' a1 a2 a3 a4) rfl rfl (by unfold lnMk; rw [hd]; rfl)
    · rw [decide_eq_false h3, decide_eq_true h1, decide_eq_false h2]; exact ⟨0, rfl⟩
  · rw [decide_eq_false h3, decide_eq_false h1]; exact ⟨0, rfl⟩
end
end Su
