/-
  What functions of the program compute, in plain Lean, and that the evaluator finds it.
-/
import Derived.Test.YtnegfdebjikfiaaGreatSuSd
import Derived.Test.YtnegfdebjikfiaaGreatRcs
set_option maxRecDepth 10000
namespace Su
open Go Fly
set_option linter.unusedVariables false
noncomputable section
def rASl  (a : Int) (b : Int) : Option Int :=
  some (Su.addI (Su.addI a b 1) (Su.flipI (Su.addI a b 2)) 1)
def rMSl  (a : Int) (b : Int) : Option Int :=
  some (Su.addI (Su.mulI a b 1) (Su.flipI (Su.mulI a b 2)) 1)
abbrev rMay_l1_S := (Int × (Bool × (Int × ((List Int) × ((List Int) × (Int × Unit))))))
def rMay_l1 : rMay_l1_S → Option (rMay_l1_S ⊕ (Lp rMay_l1_S Bool)) := fun p0 => (bif (decide ((p0.1 < (((List.length p0.2.2.2.1) : Nat) : Int)))) then
  ((Su.idx p0.2.2.2.1 p0.1)).bind fun x1 =>
  (bif (decide ((x1 < 0))) then
  some (.inr (.ret false))
 else
  (bif (decide ((0 < p0.1))) then
  ((Su.idx p0.2.2.2.1 p0.1)).bind fun x2 =>
  ((Su.idx p0.2.2.2.1 (Go.IntKind.wrap .i64 (p0.1 - 1)))).bind fun x3 =>
  (bif (decide ((x2 ≤ x3))) then
  some (.inr (.ret false))
 else
  ((Su.idx p0.2.2.2.2.1 p0.1)).bind fun x4 =>
  (bif (!(Su.finK (Su.bK (Int.toNat x4)))) then
  some (.inr (.ret false))
 else
  ((Su.idx p0.2.2.2.2.1 p0.1)).bind fun x5 =>
  (bif (decide (((((Su.clsK (Su.bK (Int.toNat x5))) : Nat) : Int) = 0))) then
  some (.inr (.ret false))
 else
  some (.inl ((Go.IntKind.wrap .i64 (p0.1 + 1)), (p0.2.1, (p0.2.2.1, (p0.2.2.2.1, (p0.2.2.2.2.1, (p0.2.2.2.2.2.1, ()))))))))))
 else
  ((Su.idx p0.2.2.2.2.1 p0.1)).bind fun x6 =>
  (bif (!(Su.finK (Su.bK (Int.toNat x6)))) then
  some (.inr (.ret false))
 else
  ((Su.idx p0.2.2.2.2.1 p0.1)).bind fun x7 =>
  (bif (decide (((((Su.clsK (Su.bK (Int.toNat x7))) : Nat) : Int) = 0))) then
  some (.inr (.ret false))
 else
  some (.inl ((Go.IntKind.wrap .i64 (p0.1 + 1)), (p0.2.1, (p0.2.2.1, (p0.2.2.2.1, (p0.2.2.2.2.1, (p0.2.2.2.2.2.1, ())))))))))))
 else
  some (.inr (.exit 0 (p0.1, (p0.2.1, (p0.2.2.1, (p0.2.2.2.1, (p0.2.2.2.2.1, (p0.2.2.2.2.2.1, ())))))))))
def rMay  (fu : Nat) (a : (Bool × (Int × ((List Int) × ((List Int) × Int))))) : Option Bool :=
  (bif a.1 then
  (bif (decide ((a.2.1 = 0))) then
  (bif (decide ((a.2.2.2.2 = 0))) then
  some (decide (((((List.length a.2.2.1) : Nat) : Int) = 0)))
 else
  some false)
 else
  some false)
 else
  (bif (!(Su.finK (Su.bK (Int.toNat a.2.1)))) then
  some false
 else
  (bif (!(Su.finK (Su.bK (Int.toNat a.2.2.2.2)))) then
  some false
 else
  (bif (decide ((a.2.1 = 9223372036854775808))) then
  some false
 else
  (bif (decide (((Int.fdiv a.2.2.2.2 (2 ^ 63)) = 1))) then
  some false
 else
  (itP fu (rMay_l1) ((0 : Int), (a.1, (a.2.1, (a.2.2.1, (a.2.2.2.1, (a.2.2.2.2, ()))))))).bind fun x8 =>
  (match x8 with
 | .exit i9 p10 => (bif (Nat.beq i9 0) then
  some true
 else
  none)
 | .ret o11 => some o11))))))
abbrev rDone_l1_S := (Bool × (Int × (Bool × (Int × ((List Int) × ((List Int) × (Int × ((List Su.T) × ((List Su.T) × (Bool × (Int × (Nat × (Nat × (Int × (Bool × (Int × (Nat × (Nat × (Int × ((List Su.T) × ((List Su.T) × Unit)))))))))))))))))))))
def rDone_l1 : rDone_l1_S → Option (rDone_l1_S ⊕ rDone_l1_S) := fun p0 => (bif (decide ((p0.2.1 < (((List.length p0.2.2.2.2.1) : Nat) : Int)))) then
  (bif p0.1 then
  ((Su.idx p0.2.2.2.2.2.1 p0.2.1)).bind fun x1 =>
  ((Su.idx p0.2.2.2.2.2.1 p0.2.1)).bind fun x2 =>
  (bif (!(decide (((((Su.clsK (Su.bK (Int.toNat x2))) : Nat) : Int) = 0)))) then
  ((Su.idx p0.2.2.2.2.1 p0.2.1)).bind fun x3 =>
  (bif ((true && (Nat.beq p0.2.2.2.2.2.2.2.2.2.2.2.2.2.2.2.2.1 (List.length p0.2.2.2.2.2.2.2.2.2.2.2.2.2.2.2.2.2.2.2.1))) && (Nat.ble ((List.length p0.2.2.2.2.2.2.2.2.2.2.2.2.2.2.2.2.2.2.2.1) + (List.length [(T.s (.int .i64 x3))])) 549755813888)) then
  ((Su.idx p0.2.2.2.2.2.1 p0.2.1)).bind fun x4 =>
  (bif ((true && (Nat.beq p0.2.2.2.2.2.2.2.2.2.2.2.2.2.2.2.2.2.1 (List.length p0.2.2.2.2.2.2.2.2.2.2.2.2.2.2.2.2.2.2.2.2.1))) && (Nat.ble ((List.length p0.2.2.2.2.2.2.2.2.2.2.2.2.2.2.2.2.2.2.2.2.1) + (List.length [(T.s (.int .u64 x4))])) 549755813888)) then
  some (.inl ((Su.finK (Su.bK (Int.toNat x1))), ((Go.IntKind.wrap .i64 (p0.2.1 + 1)), (p0.2.2.1, (p0.2.2.2.1, (p0.2.2.2.2.1, (p0.2.2.2.2.2.1, (p0.2.2.2.2.2.2.1, (p0.2.2.2.2.2.2.2.1, (p0.2.2.2.2.2.2.2.2.1, (p0.2.2.2.2.2.2.2.2.2.1, (p0.2.2.2.2.2.2.2.2.2.2.1, (p0.2.2.2.2.2.2.2.2.2.2.2.1, (p0.2.2.2.2.2.2.2.2.2.2.2.2.1, (p0.2.2.2.2.2.2.2.2.2.2.2.2.2.1, (p0.2.2.2.2.2.2.2.2.2.2.2.2.2.2.1, (p0.2.2.2.2.2.2.2.2.2.2.2.2.2.2.2.1, ((List.length (p0.2.2.2.2.2.2.2.2.2.2.2.2.2.2.2.2.2.2.2.1 ++ [(T.s (.int .i64 x3))])), ((List.length (p0.2.2.2.2.2.2.2.2.2.2.2.2.2.2.2.2.2.2.2.2.1 ++ [(T.s (.int .u64 x4))])), (p0.2.2.2.2.2.2.2.2.2.2.2.2.2.2.2.2.2.2.1, ((p0.2.2.2.2.2.2.2.2.2.2.2.2.2.2.2.2.2.2.2.1 ++ [(T.s (.int .i64 x3))]), ((p0.2.2.2.2.2.2.2.2.2.2.2.2.2.2.2.2.2.2.2.2.1 ++ [(T.s (.int .u64 x4))]), ()))))))))))))))))))))))
 else
  none)
 else
  none)
 else
  some (.inl ((Su.finK (Su.bK (Int.toNat x1))), ((Go.IntKind.wrap .i64 (p0.2.1 + 1)), (p0.2.2.1, (p0.2.2.2.1, (p0.2.2.2.2.1, (p0.2.2.2.2.2.1, (p0.2.2.2.2.2.2.1, (p0.2.2.2.2.2.2.2.1, (p0.2.2.2.2.2.2.2.2.1, (p0.2.2.2.2.2.2.2.2.2.1, (p0.2.2.2.2.2.2.2.2.2.2.1, (p0.2.2.2.2.2.2.2.2.2.2.2.1, (p0.2.2.2.2.2.2.2.2.2.2.2.2.1, (p0.2.2.2.2.2.2.2.2.2.2.2.2.2.1, (p0.2.2.2.2.2.2.2.2.2.2.2.2.2.2.1, (p0.2.2.2.2.2.2.2.2.2.2.2.2.2.2.2.1, (p0.2.2.2.2.2.2.2.2.2.2.2.2.2.2.2.2.1, (p0.2.2.2.2.2.2.2.2.2.2.2.2.2.2.2.2.2.1, (p0.2.2.2.2.2.2.2.2.2.2.2.2.2.2.2.2.2.2.1, (p0.2.2.2.2.2.2.2.2.2.2.2.2.2.2.2.2.2.2.2.1, (p0.2.2.2.2.2.2.2.2.2.2.2.2.2.2.2.2.2.2.2.2.1, ())))))))))))))))))))))))
 else
  ((Su.idx p0.2.2.2.2.2.1 p0.2.1)).bind fun x5 =>
  (bif (!(decide (((((Su.clsK (Su.bK (Int.toNat x5))) : Nat) : Int) = 0)))) then
  ((Su.idx p0.2.2.2.2.1 p0.2.1)).bind fun x6 =>
  (bif ((true && (Nat.beq p0.2.2.2.2.2.2.2.2.2.2.2.2.2.2.2.2.1 (List.length p0.2.2.2.2.2.2.2.2.2.2.2.2.2.2.2.2.2.2.2.1))) && (Nat.ble ((List.length p0.2.2.2.2.2.2.2.2.2.2.2.2.2.2.2.2.2.2.2.1) + (List.length [(T.s (.int .i64 x6))])) 549755813888)) then
  ((Su.idx p0.2.2.2.2.2.1 p0.2.1)).bind fun x7 =>
  (bif ((true && (Nat.beq p0.2.2.2.2.2.2.2.2.2.2.2.2.2.2.2.2.2.1 (List.length p0.2.2.2.2.2.2.2.2.2.2.2.2.2.2.2.2.2.2.2.2.1))) && (Nat.ble ((List.length p0.2.2.2.2.2.2.2.2.2.2.2.2.2.2.2.2.2.2.2.2.1) + (List.length [(T.s (.int .u64 x7))])) 549755813888)) then
  some (.inl (false, ((Go.IntKind.wrap .i64 (p0.2.1 + 1)), (p0.2.2.1, (p0.2.2.2.1, (p0.2.2.2.2.1, (p0.2.2.2.2.2.1, (p0.2.2.2.2.2.2.1, (p0.2.2.2.2.2.2.2.1, (p0.2.2.2.2.2.2.2.2.1, (p0.2.2.2.2.2.2.2.2.2.1, (p0.2.2.2.2.2.2.2.2.2.2.1, (p0.2.2.2.2.2.2.2.2.2.2.2.1, (p0.2.2.2.2.2.2.2.2.2.2.2.2.1, (p0.2.2.2.2.2.2.2.2.2.2.2.2.2.1, (p0.2.2.2.2.2.2.2.2.2.2.2.2.2.2.1, (p0.2.2.2.2.2.2.2.2.2.2.2.2.2.2.2.1, ((List.length (p0.2.2.2.2.2.2.2.2.2.2.2.2.2.2.2.2.2.2.2.1 ++ [(T.s (.int .i64 x6))])), ((List.length (p0.2.2.2.2.2.2.2.2.2.2.2.2.2.2.2.2.2.2.2.2.1 ++ [(T.s (.int .u64 x7))])), (p0.2.2.2.2.2.2.2.2.2.2.2.2.2.2.2.2.2.2.1, ((p0.2.2.2.2.2.2.2.2.2.2.2.2.2.2.2.2.2.2.2.1 ++ [(T.s (.int .i64 x6))]), ((p0.2.2.2.2.2.2.2.2.2.2.2.2.2.2.2.2.2.2.2.2.1 ++ [(T.s (.int .u64 x7))]), ()))))))))))))))))))))))
 else
  none)
 else
  none)
 else
  some (.inl (false, ((Go.IntKind.wrap .i64 (p0.2.1 + 1)), (p0.2.2.1, (p0.2.2.2.1, (p0.2.2.2.2.1, (p0.2.2.2.2.2.1, (p0.2.2.2.2.2.2.1, (p0.2.2.2.2.2.2.2.1, (p0.2.2.2.2.2.2.2.2.1, (p0.2.2.2.2.2.2.2.2.2.1, (p0.2.2.2.2.2.2.2.2.2.2.1, (p0.2.2.2.2.2.2.2.2.2.2.2.1, (p0.2.2.2.2.2.2.2.2.2.2.2.2.1, (p0.2.2.2.2.2.2.2.2.2.2.2.2.2.1, (p0.2.2.2.2.2.2.2.2.2.2.2.2.2.2.1, (p0.2.2.2.2.2.2.2.2.2.2.2.2.2.2.2.1, (p0.2.2.2.2.2.2.2.2.2.2.2.2.2.2.2.2.1, (p0.2.2.2.2.2.2.2.2.2.2.2.2.2.2.2.2.2.1, (p0.2.2.2.2.2.2.2.2.2.2.2.2.2.2.2.2.2.2.1, (p0.2.2.2.2.2.2.2.2.2.2.2.2.2.2.2.2.2.2.2.1, (p0.2.2.2.2.2.2.2.2.2.2.2.2.2.2.2.2.2.2.2.2.1, ()))))))))))))))))))))))))
 else
  some (.inr (p0.1, (p0.2.1, (p0.2.2.1, (p0.2.2.2.1, (p0.2.2.2.2.1, (p0.2.2.2.2.2.1, (p0.2.2.2.2.2.2.1, (p0.2.2.2.2.2.2.2.1, (p0.2.2.2.2.2.2.2.2.1, (p0.2.2.2.2.2.2.2.2.2.1, (p0.2.2.2.2.2.2.2.2.2.2.1, (p0.2.2.2.2.2.2.2.2.2.2.2.1, (p0.2.2.2.2.2.2.2.2.2.2.2.2.1, (p0.2.2.2.2.2.2.2.2.2.2.2.2.2.1, (p0.2.2.2.2.2.2.2.2.2.2.2.2.2.2.1, (p0.2.2.2.2.2.2.2.2.2.2.2.2.2.2.2.1, (p0.2.2.2.2.2.2.2.2.2.2.2.2.2.2.2.2.1, (p0.2.2.2.2.2.2.2.2.2.2.2.2.2.2.2.2.2.1, (p0.2.2.2.2.2.2.2.2.2.2.2.2.2.2.2.2.2.2.1, (p0.2.2.2.2.2.2.2.2.2.2.2.2.2.2.2.2.2.2.2.1, (p0.2.2.2.2.2.2.2.2.2.2.2.2.2.2.2.2.2.2.2.2.1, ())))))))))))))))))))))))
abbrev rDone_l2_S := (Bool × (Int × (Bool × (Int × ((List Int) × ((List Int) × (Int × ((List Su.T) × ((List Su.T) × (Bool × (Int × (Nat × (Nat × (Int × (Bool × (Int × (Nat × (Nat × (Int × ((List Su.T) × ((List Su.T) × Unit)))))))))))))))))))))
def rDone_l2 : rDone_l2_S → Option (rDone_l2_S ⊕ rDone_l2_S) := fun p16 => (bif (decide ((p16.2.1 < (((List.length p16.2.2.2.2.1) : Nat) : Int)))) then
  (bif p16.1 then
  ((Su.idx p16.2.2.2.2.2.1 p16.2.1)).bind fun x17 =>
  ((Su.idx p16.2.2.2.2.2.1 p16.2.1)).bind fun x18 =>
  (bif (!(decide (((((Su.clsK (Su.bK (Int.toNat x18))) : Nat) : Int) = 0)))) then
  ((Su.idx p16.2.2.2.2.1 p16.2.1)).bind fun x19 =>
  (bif ((true && (Nat.beq p16.2.2.2.2.2.2.2.2.2.2.2.2.2.2.2.2.1 (List.length p16.2.2.2.2.2.2.2.2.2.2.2.2.2.2.2.2.2.2.2.1))) && (Nat.ble ((List.length p16.2.2.2.2.2.2.2.2.2.2.2.2.2.2.2.2.2.2.2.1) + (List.length [(T.s (.int .i64 x19))])) 549755813888)) then
  ((Su.idx p16.2.2.2.2.2.1 p16.2.1)).bind fun x20 =>
  (bif ((true && (Nat.beq p16.2.2.2.2.2.2.2.2.2.2.2.2.2.2.2.2.2.1 (List.length p16.2.2.2.2.2.2.2.2.2.2.2.2.2.2.2.2.2.2.2.2.1))) && (Nat.ble ((List.length p16.2.2.2.2.2.2.2.2.2.2.2.2.2.2.2.2.2.2.2.2.1) + (List.length [(T.s (.int .u64 x20))])) 549755813888)) then
  some (.inl ((Su.finK (Su.bK (Int.toNat x17))), ((Go.IntKind.wrap .i64 (p16.2.1 + 1)), (p16.2.2.1, (p16.2.2.2.1, (p16.2.2.2.2.1, (p16.2.2.2.2.2.1, (p16.2.2.2.2.2.2.1, (p16.2.2.2.2.2.2.2.1, (p16.2.2.2.2.2.2.2.2.1, (p16.2.2.2.2.2.2.2.2.2.1, (p16.2.2.2.2.2.2.2.2.2.2.1, (p16.2.2.2.2.2.2.2.2.2.2.2.1, (p16.2.2.2.2.2.2.2.2.2.2.2.2.1, (p16.2.2.2.2.2.2.2.2.2.2.2.2.2.1, (p16.2.2.2.2.2.2.2.2.2.2.2.2.2.2.1, (p16.2.2.2.2.2.2.2.2.2.2.2.2.2.2.2.1, ((List.length (p16.2.2.2.2.2.2.2.2.2.2.2.2.2.2.2.2.2.2.2.1 ++ [(T.s (.int .i64 x19))])), ((List.length (p16.2.2.2.2.2.2.2.2.2.2.2.2.2.2.2.2.2.2.2.2.1 ++ [(T.s (.int .u64 x20))])), (p16.2.2.2.2.2.2.2.2.2.2.2.2.2.2.2.2.2.2.1, ((p16.2.2.2.2.2.2.2.2.2.2.2.2.2.2.2.2.2.2.2.1 ++ [(T.s (.int .i64 x19))]), ((p16.2.2.2.2.2.2.2.2.2.2.2.2.2.2.2.2.2.2.2.2.1 ++ [(T.s (.int .u64 x20))]), ()))))))))))))))))))))))
 else
  none)
 else
  none)
 else
  some (.inl ((Su.finK (Su.bK (Int.toNat x17))), ((Go.IntKind.wrap .i64 (p16.2.1 + 1)), (p16.2.2.1, (p16.2.2.2.1, (p16.2.2.2.2.1, (p16.2.2.2.2.2.1, (p16.2.2.2.2.2.2.1, (p16.2.2.2.2.2.2.2.1, (p16.2.2.2.2.2.2.2.2.1, (p16.2.2.2.2.2.2.2.2.2.1, (p16.2.2.2.2.2.2.2.2.2.2.1, (p16.2.2.2.2.2.2.2.2.2.2.2.1, (p16.2.2.2.2.2.2.2.2.2.2.2.2.1, (p16.2.2.2.2.2.2.2.2.2.2.2.2.2.1, (p16.2.2.2.2.2.2.2.2.2.2.2.2.2.2.1, (p16.2.2.2.2.2.2.2.2.2.2.2.2.2.2.2.1, (p16.2.2.2.2.2.2.2.2.2.2.2.2.2.2.2.2.1, (p16.2.2.2.2.2.2.2.2.2.2.2.2.2.2.2.2.2.1, (p16.2.2.2.2.2.2.2.2.2.2.2.2.2.2.2.2.2.2.1, (p16.2.2.2.2.2.2.2.2.2.2.2.2.2.2.2.2.2.2.2.1, (p16.2.2.2.2.2.2.2.2.2.2.2.2.2.2.2.2.2.2.2.2.1, ())))))))))))))))))))))))
 else
  ((Su.idx p16.2.2.2.2.2.1 p16.2.1)).bind fun x21 =>
  (bif (!(decide (((((Su.clsK (Su.bK (Int.toNat x21))) : Nat) : Int) = 0)))) then
  ((Su.idx p16.2.2.2.2.1 p16.2.1)).bind fun x22 =>
  (bif ((true && (Nat.beq p16.2.2.2.2.2.2.2.2.2.2.2.2.2.2.2.2.1 (List.length p16.2.2.2.2.2.2.2.2.2.2.2.2.2.2.2.2.2.2.2.1))) && (Nat.ble ((List.length p16.2.2.2.2.2.2.2.2.2.2.2.2.2.2.2.2.2.2.2.1) + (List.length [(T.s (.int .i64 x22))])) 549755813888)) then
  ((Su.idx p16.2.2.2.2.2.1 p16.2.1)).bind fun x23 =>
  (bif ((true && (Nat.beq p16.2.2.2.2.2.2.2.2.2.2.2.2.2.2.2.2.2.1 (List.length p16.2.2.2.2.2.2.2.2.2.2.2.2.2.2.2.2.2.2.2.2.1))) && (Nat.ble ((List.length p16.2.2.2.2.2.2.2.2.2.2.2.2.2.2.2.2.2.2.2.2.1) + (List.length [(T.s (.int .u64 x23))])) 549755813888)) then
  some (.inl (false, ((Go.IntKind.wrap .i64 (p16.2.1 + 1)), (p16.2.2.1, (p16.2.2.2.1, (p16.2.2.2.2.1, (p16.2.2.2.2.2.1, (p16.2.2.2.2.2.2.1, (p16.2.2.2.2.2.2.2.1, (p16.2.2.2.2.2.2.2.2.1, (p16.2.2.2.2.2.2.2.2.2.1, (p16.2.2.2.2.2.2.2.2.2.2.1, (p16.2.2.2.2.2.2.2.2.2.2.2.1, (p16.2.2.2.2.2.2.2.2.2.2.2.2.1, (p16.2.2.2.2.2.2.2.2.2.2.2.2.2.1, (p16.2.2.2.2.2.2.2.2.2.2.2.2.2.2.1, (p16.2.2.2.2.2.2.2.2.2.2.2.2.2.2.2.1, ((List.length (p16.2.2.2.2.2.2.2.2.2.2.2.2.2.2.2.2.2.2.2.1 ++ [(T.s (.int .i64 x22))])), ((List.length (p16.2.2.2.2.2.2.2.2.2.2.2.2.2.2.2.2.2.2.2.2.1 ++ [(T.s (.int .u64 x23))])), (p16.2.2.2.2.2.2.2.2.2.2.2.2.2.2.2.2.2.2.1, ((p16.2.2.2.2.2.2.2.2.2.2.2.2.2.2.2.2.2.2.2.1 ++ [(T.s (.int .i64 x22))]), ((p16.2.2.2.2.2.2.2.2.2.2.2.2.2.2.2.2.2.2.2.2.1 ++ [(T.s (.int .u64 x23))]), ()))))))))))))))))))))))
 else
  none)
 else
  none)
 else
  some (.inl (false, ((Go.IntKind.wrap .i64 (p16.2.1 + 1)), (p16.2.2.1, (p16.2.2.2.1, (p16.2.2.2.2.1, (p16.2.2.2.2.2.1, (p16.2.2.2.2.2.2.1, (p16.2.2.2.2.2.2.2.1, (p16.2.2.2.2.2.2.2.2.1, (p16.2.2.2.2.2.2.2.2.2.1, (p16.2.2.2.2.2.2.2.2.2.2.1, (p16.2.2.2.2.2.2.2.2.2.2.2.1, (p16.2.2.2.2.2.2.2.2.2.2.2.2.1, (p16.2.2.2.2.2.2.2.2.2.2.2.2.2.1, (p16.2.2.2.2.2.2.2.2.2.2.2.2.2.2.1, (p16.2.2.2.2.2.2.2.2.2.2.2.2.2.2.2.1, (p16.2.2.2.2.2.2.2.2.2.2.2.2.2.2.2.2.1, (p16.2.2.2.2.2.2.2.2.2.2.2.2.2.2.2.2.2.1, (p16.2.2.2.2.2.2.2.2.2.2.2.2.2.2.2.2.2.2.1, (p16.2.2.2.2.2.2.2.2.2.2.2.2.2.2.2.2.2.2.2.1, (p16.2.2.2.2.2.2.2.2.2.2.2.2.2.2.2.2.2.2.2.2.1, ()))))))))))))))))))))))))
 else
  some (.inr (p16.1, (p16.2.1, (p16.2.2.1, (p16.2.2.2.1, (p16.2.2.2.2.1, (p16.2.2.2.2.2.1, (p16.2.2.2.2.2.2.1, (p16.2.2.2.2.2.2.2.1, (p16.2.2.2.2.2.2.2.2.1, (p16.2.2.2.2.2.2.2.2.2.1, (p16.2.2.2.2.2.2.2.2.2.2.1, (p16.2.2.2.2.2.2.2.2.2.2.2.1, (p16.2.2.2.2.2.2.2.2.2.2.2.2.1, (p16.2.2.2.2.2.2.2.2.2.2.2.2.2.1, (p16.2.2.2.2.2.2.2.2.2.2.2.2.2.2.1, (p16.2.2.2.2.2.2.2.2.2.2.2.2.2.2.2.1, (p16.2.2.2.2.2.2.2.2.2.2.2.2.2.2.2.2.1, (p16.2.2.2.2.2.2.2.2.2.2.2.2.2.2.2.2.2.1, (p16.2.2.2.2.2.2.2.2.2.2.2.2.2.2.2.2.2.2.1, (p16.2.2.2.2.2.2.2.2.2.2.2.2.2.2.2.2.2.2.2.1, (p16.2.2.2.2.2.2.2.2.2.2.2.2.2.2.2.2.2.2.2.2.1, ())))))))))))))))))))))))
def rDone  (fu : Nat) (a : (Bool × (Int × ((List Int) × ((List Int) × Int))))) : Option (Bool × (Int × ((List Int) × ((List Int) × Int)))) :=
  (bif (Su.finK (Su.bK (Int.toNat a.2.1))) then
  (itP fu (rDone_l1) ((Su.finK (Su.bK (Int.toNat a.2.2.2.2))), ((0 : Int), (a.1, (a.2.1, (a.2.2.1, (a.2.2.2.1, (a.2.2.2.2, ([], ([], (false, ((0 : Int), (0, (0, ((0 : Int), (false, ((Su.nzI a.2.1), (0, (0, ((Su.nzI a.2.2.2.2), ([], ([], ())))))))))))))))))))))).bind fun x8 =>
  (bif x8.2.2.1 then
  some (true, ((0 : Int), ([], ([], (0 : Int)))))
 else
  (bif (!x8.1) then
  some (true, ((0 : Int), ([], ([], (0 : Int)))))
 else
  ((Su.sub x8.2.2.2.2.2.2.2.2.2.2.2.2.2.2.2.2.2.2.2.1 0 x8.2.2.2.2.2.2.2.2.2.2.2.2.2.2.2.2.1)).bind fun x9 =>
  ((Su.sub x8.2.2.2.2.2.2.2.2.2.2.2.2.2.2.2.2.2.2.2.2.1 0 x8.2.2.2.2.2.2.2.2.2.2.2.2.2.2.2.2.2.1)).bind fun x10 =>
  ((((Su.unviews 3 x9)).bind fun x11 =>
  (((Su.unviews 2 x10)).bind fun x12 =>
  some (x12, x8.2.2.2.2.2.2.2.2.2.2.2.2.2.2.2.2.2.2.1)).bind fun x13 =>
  some (x11, x13)).bind fun x14 =>
  some (x8.2.2.2.2.2.2.2.2.2.2.2.2.2.2.2.1, x14)).bind fun x15 =>
  some (x8.2.2.2.2.2.2.2.2.2.2.2.2.2.2.1, x15)))
 else
  (itP fu (rDone_l2) (false, ((0 : Int), (a.1, (a.2.1, (a.2.2.1, (a.2.2.2.1, (a.2.2.2.2, ([], ([], (false, ((0 : Int), (0, (0, ((0 : Int), (false, ((Su.nzI a.2.1), (0, (0, ((Su.nzI a.2.2.2.2), ([], ([], ())))))))))))))))))))))).bind fun x24 =>
  (bif x24.2.2.1 then
  some (true, ((0 : Int), ([], ([], (0 : Int)))))
 else
  (bif (!x24.1) then
  some (true, ((0 : Int), ([], ([], (0 : Int)))))
 else
  ((Su.sub x24.2.2.2.2.2.2.2.2.2.2.2.2.2.2.2.2.2.2.2.1 0 x24.2.2.2.2.2.2.2.2.2.2.2.2.2.2.2.2.1)).bind fun x25 =>
  ((Su.sub x24.2.2.2.2.2.2.2.2.2.2.2.2.2.2.2.2.2.2.2.2.1 0 x24.2.2.2.2.2.2.2.2.2.2.2.2.2.2.2.2.2.1)).bind fun x26 =>
  ((((Su.unviews 3 x25)).bind fun x27 =>
  (((Su.unviews 2 x26)).bind fun x28 =>
  some (x28, x24.2.2.2.2.2.2.2.2.2.2.2.2.2.2.2.2.2.2.1)).bind fun x29 =>
  some (x27, x29)).bind fun x30 =>
  some (x24.2.2.2.2.2.2.2.2.2.2.2.2.2.2.2.1, x30)).bind fun x31 =>
  some (x24.2.2.2.2.2.2.2.2.2.2.2.2.2.2.1, x31))))
def rAt_l1 : (Int × (Int × (Bool × (Int × ((List Int) × ((List Int) × (Int × Unit))))))) → Option ((Int × (Int × (Bool × (Int × ((List Int) × ((List Int) × (Int × Unit))))))) ⊕ (Lp (Int × (Int × (Bool × (Int × ((List Int) × ((List Int) × (Int × Unit))))))) Int)) := fun p0 => (bif (decide ((p0.2.1 < (((List.length p0.2.2.2.2.1) : Nat) : Int)))) then
  ((Su.idx p0.2.2.2.2.1 p0.2.1)).bind fun x1 =>
  (bif (decide ((x1 = p0.1))) then
  ((Su.idx p0.2.2.2.2.2.1 p0.2.1)).bind fun x2 =>
  some (.inr (.ret x2))
 else
  some (.inl (p0.1, ((Go.IntKind.wrap .i64 (p0.2.1 + 1)), (p0.2.2.1, (p0.2.2.2.1, (p0.2.2.2.2.1, (p0.2.2.2.2.2.1, (p0.2.2.2.2.2.2.1, ())))))))))
 else
  some (.inr (.exit 0 (p0.1, (p0.2.1, (p0.2.2.1, (p0.2.2.2.1, (p0.2.2.2.2.1, (p0.2.2.2.2.2.1, (p0.2.2.2.2.2.2.1, ()))))))))))
def rAt  (fu : Nat) (a : (Bool × (Int × ((List Int) × ((List Int) × Int))))) (id : Int) : Option Int :=
  (itP fu (rAt_l1) (id, ((0 : Int), (a.1, (a.2.1, (a.2.2.1, (a.2.2.2.1, (a.2.2.2.2, ())))))))).bind fun x3 =>
  (match x3 with
 | .exit i4 p5 => (bif (Nat.beq i4 0) then
  some 0
 else
  none)
 | .ret o6 => some o6)
abbrev rIds_l1_S := (Nat × (Int × (Int × (Bool × (Int × ((List Int) × ((List Int) × (Int × (Bool × (Int × ((List Int) × ((List Int) × (Int × ((List Su.T) × Unit))))))))))))))
def rIds_l1_c3 :=
  fun (p5021 : rIds_l1_S) x5022 =>
  (bif ((true && (Nat.beq p5021.1 (List.length p5021.2.2.2.2.2.2.2.2.2.2.2.2.2.1))) && (Nat.ble ((List.length p5021.2.2.2.2.2.2.2.2.2.2.2.2.2.1) + (List.length [(T.s (.int .i64 x5022))])) 549755813888)) then
  some (.inl ((List.length (p5021.2.2.2.2.2.2.2.2.2.2.2.2.2.1 ++ [(T.s (.int .i64 x5022))])), (p5021.2.1, ((Go.IntKind.wrap .i64 (p5021.2.2.1 + 1)), (p5021.2.2.2.1, (p5021.2.2.2.2.1, (p5021.2.2.2.2.2.1, (p5021.2.2.2.2.2.2.1, (p5021.2.2.2.2.2.2.2.1, (p5021.2.2.2.2.2.2.2.2.1, (p5021.2.2.2.2.2.2.2.2.2.1, (p5021.2.2.2.2.2.2.2.2.2.2.1, (p5021.2.2.2.2.2.2.2.2.2.2.2.1, (p5021.2.2.2.2.2.2.2.2.2.2.2.2.1, ((p5021.2.2.2.2.2.2.2.2.2.2.2.2.2.1 ++ [(T.s (.int .i64 x5022))]), ())))))))))))))))
 else
  none : Option (rIds_l1_S ⊕ rIds_l1_S))
def rIds_l1_c1 :=
  fun (p5018 : rIds_l1_S) =>
  (bif (decide (((((List.length p5018.2.2.2.2.2.1) : Nat) : Int) ≤ p5018.2.1))) then
  ((Su.idx p5018.2.2.2.2.2.2.2.2.2.2.1 p5018.2.2.1)).bind fun x5 =>
  (rIds_l1_c3 p5018 x5)
 else
  ((Su.idx p5018.2.2.2.2.2.2.2.2.2.2.1 p5018.2.2.1)).bind fun x6 =>
  ((Su.idx p5018.2.2.2.2.2.1 p5018.2.1)).bind fun x7 =>
  (bif (decide ((x6 < x7))) then
  ((Su.idx p5018.2.2.2.2.2.2.2.2.2.2.1 p5018.2.2.1)).bind fun x8 =>
  (rIds_l1_c3 p5018 x8)
 else
  ((Su.idx p5018.2.2.2.2.2.1 p5018.2.1)).bind fun x9 =>
  (bif ((true && (Nat.beq p5018.1 (List.length p5018.2.2.2.2.2.2.2.2.2.2.2.2.2.1))) && (Nat.ble ((List.length p5018.2.2.2.2.2.2.2.2.2.2.2.2.2.1) + (List.length [(T.s (.int .i64 x9))])) 549755813888)) then
  some (.inl ((List.length (p5018.2.2.2.2.2.2.2.2.2.2.2.2.2.1 ++ [(T.s (.int .i64 x9))])), ((Go.IntKind.wrap .i64 (p5018.2.1 + 1)), ((Go.IntKind.wrap .i64 (p5018.2.2.1 + 1)), (p5018.2.2.2.1, (p5018.2.2.2.2.1, (p5018.2.2.2.2.2.1, (p5018.2.2.2.2.2.2.1, (p5018.2.2.2.2.2.2.2.1, (p5018.2.2.2.2.2.2.2.2.1, (p5018.2.2.2.2.2.2.2.2.2.1, (p5018.2.2.2.2.2.2.2.2.2.2.1, (p5018.2.2.2.2.2.2.2.2.2.2.2.1, (p5018.2.2.2.2.2.2.2.2.2.2.2.2.1, ((p5018.2.2.2.2.2.2.2.2.2.2.2.2.2.1 ++ [(T.s (.int .i64 x9))]), ())))))))))))))))
 else
  none)) : Option (rIds_l1_S ⊕ rIds_l1_S))
def rIds_l1_c2 :=
  fun (p5019 : rIds_l1_S) x5020 =>
  (bif ((true && (Nat.beq p5019.1 (List.length p5019.2.2.2.2.2.2.2.2.2.2.2.2.2.1))) && (Nat.ble ((List.length p5019.2.2.2.2.2.2.2.2.2.2.2.2.2.1) + (List.length [(T.s (.int .i64 x5020))])) 549755813888)) then
  some (.inl ((List.length (p5019.2.2.2.2.2.2.2.2.2.2.2.2.2.1 ++ [(T.s (.int .i64 x5020))])), ((Go.IntKind.wrap .i64 (p5019.2.1 + 1)), (p5019.2.2.1, (p5019.2.2.2.1, (p5019.2.2.2.2.1, (p5019.2.2.2.2.2.1, (p5019.2.2.2.2.2.2.1, (p5019.2.2.2.2.2.2.2.1, (p5019.2.2.2.2.2.2.2.2.1, (p5019.2.2.2.2.2.2.2.2.2.1, (p5019.2.2.2.2.2.2.2.2.2.2.1, (p5019.2.2.2.2.2.2.2.2.2.2.2.1, (p5019.2.2.2.2.2.2.2.2.2.2.2.2.1, ((p5019.2.2.2.2.2.2.2.2.2.2.2.2.2.1 ++ [(T.s (.int .i64 x5020))]), ())))))))))))))))
 else
  none : Option (rIds_l1_S ⊕ rIds_l1_S))
def rIds_l1_c4 :=
  fun (p5023 : rIds_l1_S) =>
  bif (decide (((((List.length p5023.2.2.2.2.2.2.2.2.2.2.1) : Nat) : Int) ≤ p5023.2.2.1))) then
  ((Su.idx p5023.2.2.2.2.2.1 p5023.2.1)).bind fun x1 =>
  (rIds_l1_c2 p5023 x1)
 else
  (bif (decide ((p5023.2.1 < (((List.length p5023.2.2.2.2.2.1) : Nat) : Int)))) then
  ((Su.idx p5023.2.2.2.2.2.1 p5023.2.1)).bind fun x2 =>
  ((Su.idx p5023.2.2.2.2.2.2.2.2.2.2.1 p5023.2.2.1)).bind fun x3 =>
  (bif (decide ((x2 < x3))) then
  ((Su.idx p5023.2.2.2.2.2.1 p5023.2.1)).bind fun x4 =>
  (rIds_l1_c2 p5023 x4)
 else
  (rIds_l1_c1 p5023))
 else
  (rIds_l1_c1 p5023))
def rIds_l1 : rIds_l1_S → Option (rIds_l1_S ⊕ rIds_l1_S) := fun p0 => (bif (decide ((p0.2.1 < (((List.length p0.2.2.2.2.2.1) : Nat) : Int)))) then
  (rIds_l1_c4 p0)
 else
  (bif (decide ((p0.2.2.1 < (((List.length p0.2.2.2.2.2.2.2.2.2.2.1) : Nat) : Int)))) then
  (rIds_l1_c4 p0)
 else
  some (.inr (p0.1, (p0.2.1, (p0.2.2.1, (p0.2.2.2.1, (p0.2.2.2.2.1, (p0.2.2.2.2.2.1, (p0.2.2.2.2.2.2.1, (p0.2.2.2.2.2.2.2.1, (p0.2.2.2.2.2.2.2.2.1, (p0.2.2.2.2.2.2.2.2.2.1, (p0.2.2.2.2.2.2.2.2.2.2.1, (p0.2.2.2.2.2.2.2.2.2.2.2.1, (p0.2.2.2.2.2.2.2.2.2.2.2.2.1, (p0.2.2.2.2.2.2.2.2.2.2.2.2.2.1, ())))))))))))))))))
def rIds  (fu : Nat) (a : (Bool × (Int × ((List Int) × ((List Int) × Int))))) (b : (Bool × (Int × ((List Int) × ((List Int) × Int))))) : Option (List Int) :=
  (itP fu (rIds_l1) (0, ((0 : Int), ((0 : Int), (a.1, (a.2.1, (a.2.2.1, (a.2.2.2.1, (a.2.2.2.2, (b.1, (b.2.1, (b.2.2.1, (b.2.2.2.1, (b.2.2.2.2, ([], ()))))))))))))))).bind fun x29 =>
  ((Su.sub x29.2.2.2.2.2.2.2.2.2.2.2.2.2.1 0 x29.1)).bind fun x30 =>
  (Su.unviews 3 x30)
set_option linter.unusedSimpArgs false
def rASl_s (p : Int × Int) : Option Int := some (slkA p.1 p.2)
theorem rASl_ok (p : Int × Int) (y : Int) (hg : (dc (cI .u64) (d1 (cI .u64))).good p) (h : rASl_s p = some y) : rASl p.1 p.2 = some y := by
  have := soi h; subst this
  show some (addI (addI p.1 p.2 1) (flipI (addI p.1 p.2 2)) 1) = _
  rw [add_flip (wd_add (wd_of hg.1) (wd_of hg.2) 2)]; rfl
def rMSl_s (p : Int × Int) : Option Int := some (slkM p.1 p.2)
theorem rMSl_ok (p : Int × Int) (y : Int) (hg : (dc (cI .u64) (d1 (cI .u64))).good p) (h : rMSl_s p = some y) : rMSl p.1 p.2 = some y := by
  have := soi h; subst this
  show some (addI (mulI p.1 p.2 1) (flipI (mulI p.1 p.2 2)) 1) = _
  rw [add_flip (wd_mul (wd_of hg.1) (wd_of hg.2) 2)]; rfl
def e3 (i : Int) : T := T.s (.int .i64 i)
def e2 (c : Int) : T := T.s (.int .u64 c)
theorem unviews_3 (l : List Int) : unviews 3 (l.map e3) = some l := unviews_map (u := 3) (by decide) l
theorem unviews_2 (l : List Int) : unviews 2 (l.map e2) = some l := unviews_map (u := 2) (by decide) l
theorem sub_full (R : List T) (n : Nat) (h : n = R.length) : sub R 0 n = some R := by
  subst h
  have := sub_pre R [] R.length rfl
  rwa [List.append_nil] at this
abbrev Rf := Bool × (Int × (List Int × (List Int × Int)))
def toF (x : Rf) : Fm := (x.1, (x.2.1, (zipT x.2.2.1 x.2.2.2.1, x.2.2.2.2)))
def ofF (a : Fm) : Rf := (a.1, (a.2.1, (a.2.2.1.map Tm.id, (a.2.2.1.map Tm.c, a.2.2.2))))
def eqL (x : Rf) : Bool := Nat.beq x.2.2.1.length x.2.2.2.1.length
theorem to_of (a : Fm) : toF (ofF a) = a := by
  obtain ⟨b, m, l, e⟩ := a
  show (b, (m, (zipT (l.map Tm.id) (l.map Tm.c), e))) = _
  rw [zip_map]
theorem of_to {x : Rf} (h : eqL x = true) : x = ofF (toF x) := by
  obtain ⟨b, m, i, c, e⟩ := x
  have h' : i.length = c.length := Nat.eq_of_beq_eq_true h
  show _ = (b, (m, ((zipT i c).map Tm.id, ((zipT i c).map Tm.c, e))))
  rw [zip_id h', zip_c h']
theorem eqL_of (a : Fm) : eqL (ofF a) = true := by
  show Nat.beq (a.2.2.1.map Tm.id).length (a.2.2.1.map Tm.c).length = true
  rw [List.length_map, List.length_map]
  exact beq_self a.2.2.1.length
theorem onF {P : Rf → Prop} (h : ∀ a : Fm, P (ofF a)) {x : Rf} (hx : eqL x = true) : P x := by rw [of_to hx]; exact h _
theorem idx_mid {α β : Type} (f : α → β) (A : List α) (t : α) (rest : List α) : idx ((A ++ t :: rest).map f) (A.length : Int) = some (f t) := by
  rw [idx_nat, List.getElem?_map, List.getElem?_append_right (Nat.le_refl _), Nat.sub_self]; rfl
theorem rmay_loop (b : Bool) (m e : Int) (l : List Tm) (hl : l.length ≤ 9223372036854775807) : ∀ (rest A : List Tm) (last : Int), A ++ rest = l → -1 ≤ last → (A = [] → last = -1) → (∀ A' p, A = A' ++ [p] → last = Tm.id p) →
    ∃ n y, itP n rMay_l1 ((A.length : Int), (b, (m, (l.map Tm.id, (l.map Tm.c, (e, ())))))) = some y ∧
      (y = .exit 0 ((l.length : Int), (b, (m, (l.map Tm.id, (l.map Tm.c, (e, ())))))) ∧ riseF last rest = true ∨ y = .ret false ∧ riseF last rest = false)
  | [], A, last, hA, _, _, _ => by
    rw [List.append_nil] at hA; subst hA
    refine ⟨1, _, ?_, .inl ⟨rfl, rfl⟩⟩
    rw [itP_s]
    simp only [rMay_l1, List.length_map]
    rw [decide_eq_false (by omega), cond_false]; rfl
  | t :: rest, A, last, hA, h0, h1, h2 => by
    have hNl : A.length + (rest.length + 1) = l.length := by rw [← hA]; simp
    have hi : idx (l.map Tm.id) (A.length : Int) = some t.id := by rw [← hA]; exact idx_mid Tm.id A t rest
    have hc : idx (l.map Tm.c) (A.length : Int) = some t.c := by rw [← hA]; exact idx_mid Tm.c A t rest
    have hz : Nat.beq (bK (Int.toNat t.c)) 0 = zI t.c := rfl
    have hf : finK (bK (Int.toNat t.c)) = fI t.c := rfl
    have hlt : decide ((A.length : Int) < ((l.map Tm.id).length : Nat)) = true := decide_eq_true (by rw [List.length_map]; omega)
    have step : rMay_l1 ((A.length : Int), (b, (m, (l.map Tm.id, (l.map Tm.c, (e, ())))))) =
        bif decide (t.id ≤ last) then some (.inr (.ret false)) else bif !fI t.c then some (.inr (.ret false)) else bif zI t.c then some (.inr (.ret false)) else
          some (.inl (((A ++ [t]).length : Int), (b, (m, (l.map Tm.id, (l.map Tm.c, (e, ()))))))) := by
      simp only [rMay_l1, hi, hc, hlt, cond_true, Option.bind_some, cls_zero, hz, hf]
      have hw : IntKind.i64.wrap ((A.length : Int) + 1) = (((A ++ [t]).length : Nat) : Int) := by rw [w64 (by omega) (by omega)]; simp
      rw [hw]
      by_cases hn : t.id < 0
      · rw [decide_eq_true hn, cond_true, decide_eq_true (show t.id ≤ last by omega), cond_true]
      · rw [decide_eq_false hn, cond_false]
        rcases List.eq_nil_or_concat A with hA0 | ⟨A', p, hA0⟩
        · have := h1 hA0
          rw [decide_eq_false (show ¬ t.id ≤ last by omega), cond_false]
          have h00 : decide (0 < (A.length : Int)) = false := by rw [hA0]; rfl
          rw [h00, cond_false]
        · have hA1 : A = A' ++ [p] := by rw [hA0, List.concat_eq_append]
          have hlen : A.length = A'.length + 1 := by rw [hA1]; simp
          have := h2 A' p hA1
          rw [decide_eq_true (show 0 < (A.length : Int) by omega), cond_true, w64 (by omega) (by omega), show (A.length : Int) - 1 = (A'.length : Int) by omega]
          have hp : idx (l.map Tm.id) (A'.length : Int) = some p.id := by rw [← hA, hA1, List.append_assoc]; exact idx_mid Tm.id A' p _
          rw [hp, Option.bind_some, ← this]
    by_cases g1 : t.id ≤ last
    · refine ⟨1, .ret false, ?_, .inr ⟨rfl, by unfold riseF; rw [decide_eq_false (by omega)]; rfl⟩⟩
      rw [itP_s, step, decide_eq_true g1]; rfl
    · cases g2 : zI t.c with
      | true =>
        refine ⟨1, .ret false, ?_, .inr ⟨rfl, by unfold riseF; rw [g2]; simp⟩⟩
        rw [itP_s, step, decide_eq_false g1, g2]
        cases fI t.c <;> rfl
      | false =>
        cases g3 : fI t.c with
        | false =>
          refine ⟨1, .ret false, ?_, .inr ⟨rfl, by unfold riseF; rw [g3]; simp⟩⟩
          rw [itP_s, step, decide_eq_false g1, g3]; rfl
        | true =>
          obtain ⟨n, y, q1, q2⟩ := rmay_loop b m e l hl rest (A ++ [t]) t.id (by rw [← hA]; simp) (by omega) (by simp) (fun A' p hp => by
            have := List.append_inj_right' hp rfl
            simp only [List.cons.injEq, and_true] at this
            rw [this])
          have er : riseF last (t :: rest) = riseF t.id rest := by
            show (decide (last < t.id) && (!zI t.c && (fI t.c && riseF t.id rest))) = _
            rw [decide_eq_true (by omega), g2, g3]; rfl
          refine ⟨n + 1, y, ?_, by rw [er]; exact q2⟩
          rw [itP_s, step, decide_eq_false g1, g2, g3]
          exact q1
def rMay_s (x : Rf) : Option Bool := bif eqL x then some (mayF (toF x)) else none
theorem rMay_ok (x : Rf) (y : Bool) (hg : (d1 cRf).good x) (h : rMay_s x = some y) : ∃ n, rMay n x = some y := by
  obtain ⟨hx, h2⟩ := bif_some h
  have := soi h2; subst this
  revert hg
  refine onF (P := fun x => (d1 cRf).good x → ∃ n, rMay n x = some (mayF (toF x))) (fun a hg => ?_) hx
  rw [to_of]
  obtain ⟨b, m, l, e⟩ := a
  have hll : (l.map Tm.id).length ≤ maxLen := hg.2.2.1.2
  rw [List.length_map] at hll
  have we : inR .u64 e = true := hg.2.2.2.2
  obtain ⟨E, hE, hE2⟩ := asN64 we
  have hf : ∀ f : Int, finK (bK (Int.toNat f)) = fI f := fun _ => rfl
  have hfd : decide (Int.fdiv e (2 ^ 63) = 1) = !decide (Int.fdiv e (2 ^ 63) = 0) := by
    rw [hE, fd_pow]
    by_cases h : E < 9223372036854775808
    · rw [show E / 2 ^ 63 = 0 by omega]; rfl
    · rw [show E / 2 ^ 63 = 1 by omega]; rfl
  rw [mayF_eq]
  unfold rMay ofF
  simp only [hf, hfd]
  cases b with
  | true =>
    refine ⟨0, ?_⟩
    simp only [cond_true]
    have : decide ((((l.map Tm.id).length : Nat) : Int) = 0) = l.isEmpty := by cases l <;> simp <;> omega
    rw [this]
    cases decide (m = 0) <;> cases decide (e = 0) <;> rfl
  | false =>
    obtain ⟨n, z, q1, q2⟩ := rmay_loop false m e l (by rw [maxLen_eq] at hll; omega) l [] (-1) rfl (by omega) (fun _ => rfl) (fun A' p h => by simp at h)
    refine ⟨n, ?_⟩
    simp only [cond_false]
    have q1' : itP n rMay_l1 ((0 : Int), (false, (m, (l.map Tm.id, (l.map Tm.c, (e, ())))))) = some z := q1
    rw [q1', Option.bind_some]
    rcases q2 with ⟨rfl, e1⟩ | ⟨rfl, e1⟩
    · simp only [e1]
      rw [show Nat.beq 0 0 = true from rfl, cond_true]
      cases fI m <;> cases fI e <;> cases decide (m = 9223372036854775808) <;> cases decide (Int.fdiv e (2 ^ 63) = 0) <;> rfl
    · simp only [e1]
      cases fI m <;> cases fI e <;> cases decide (m = 9223372036854775808) <;> cases decide (Int.fdiv e (2 ^ 63) = 0) <;> rfl
theorem delZ_snoc (A : List Tm) (t : Tm) : delZ (A ++ [t]) = bif zI t.c then delZ A else delZ A ++ [t] := by
  unfold delZ
  rw [List.filter_append]
  cases h : zI t.c <;> simp [h]
theorem done_step (ok b b0 b1 : Bool) (m m0 e e0 m1 e1 : Int) (l : List Tm) (r1 r2 : List T) (n0 n1 : Nat) (A : List Tm) (t : Tm) (rest : List Tm) (hA : A ++ t :: rest = l) (hl : l.length ≤ 549755813888) :
    rDone_l1 (ok, ((A.length : Int), (b, (m, (l.map Tm.id, (l.map Tm.c, (e, (r1, (r2, (b0, (m0, (n0, (n1, (e0, (b1, (m1, ((delZ A).length, ((delZ A).length, (e1, (((delZ A).map Tm.id).map e3, (((delZ A).map Tm.c).map e2, ()))))))))))))))))))))) =
      some (.inl (ok && fI t.c, (((A ++ [t]).length : Int), (b, (m, (l.map Tm.id, (l.map Tm.c, (e, (r1, (r2, (b0, (m0, (n0, (n1, (e0, (b1, (m1, ((delZ (A ++ [t])).length, ((delZ (A ++ [t])).length, (e1, (((delZ (A ++ [t])).map Tm.id).map e3, (((delZ (A ++ [t])).map Tm.c).map e2, ())))))))))))))))))))))) := by
  have hNl : A.length + (rest.length + 1) = l.length := by rw [← hA]; simp
  have hi : idx (l.map Tm.id) (A.length : Int) = some t.id := by rw [← hA]; exact idx_mid Tm.id A t rest
  have hc : idx (l.map Tm.c) (A.length : Int) = some t.c := by rw [← hA]; exact idx_mid Tm.c A t rest
  have hz : Nat.beq (bK (Int.toNat t.c)) 0 = zI t.c := rfl
  have hf : finK (bK (Int.toNat t.c)) = fI t.c := rfl
  have hlt : decide ((A.length : Int) < ((l.length : Nat) : Int)) = true := decide_eq_true (by omega)
  have hw : IntKind.i64.wrap ((A.length : Int) + 1) = (((A ++ [t]).length : Nat) : Int) := by rw [w64 (by omega) (by omega)]; simp
  have hdl : (delZ A).length ≤ A.length := List.length_filter_le _ _
  have hb : Nat.ble ((delZ A).length + 1) 549755813888 = true := Nat.ble_eq_true_of_le (by omega)
  simp only [rDone_l1, hi, hc, hlt, cond_true, Option.bind_some, cls_zero, hz, hf, hw, List.length_map, List.length_singleton, hb, beq_self, Bool.and_self]
  have d1 : ((delZ A).map Tm.id).map e3 ++ [T.s (.int .i64 t.id)] = ((delZ A ++ [t]).map Tm.id).map e3 := by rw [List.map_append, List.map_append]; rfl
  have d2 : ((delZ A).map Tm.c).map e2 ++ [T.s (.int .u64 t.c)] = ((delZ A ++ [t]).map Tm.c).map e2 := by rw [List.map_append, List.map_append]; rfl
  rw [delZ_snoc, d1, d2]
  cases ok <;> cases hzt : zI t.c <;> simp only [cond_true, cond_false, Bool.not_true, Bool.not_false, Bool.true_and, Bool.false_and, List.length_map]
theorem done_loop (b b0 b1 : Bool) (m m0 e e0 m1 e1 : Int) (l : List Tm) (hl : l.length ≤ 549755813888) (r1 r2 : List T) (n0 n1 : Nat) : ∀ (rest A : List Tm) (ok : Bool), A ++ rest = l →
    ∃ n, itP n rDone_l1 (ok, ((A.length : Int), (b, (m, (l.map Tm.id, (l.map Tm.c, (e, (r1, (r2, (b0, (m0, (n0, (n1, (e0, (b1, (m1, ((delZ A).length, ((delZ A).length, (e1, (((delZ A).map Tm.id).map e3, (((delZ A).map Tm.c).map e2, ()))))))))))))))))))))) =
      some (ok && rest.all fun t => fI t.c, ((l.length : Int), (b, (m, (l.map Tm.id, (l.map Tm.c, (e, (r1, (r2, (b0, (m0, (n0, (n1, (e0, (b1, (m1, ((delZ l).length, ((delZ l).length, (e1, (((delZ l).map Tm.id).map e3, (((delZ l).map Tm.c).map e2, ())))))))))))))))))))))
  | [], A, ok, hA => by
    rw [List.append_nil] at hA; subst hA
    refine ⟨1, ?_⟩
    rw [itP_s]
    simp only [rDone_l1, List.length_map, List.all_nil, Bool.and_true]
    rw [decide_eq_false (by omega), cond_false]; rfl
  | t :: rest, A, ok, hA => by
    obtain ⟨n, q⟩ := done_loop b b0 b1 m m0 e e0 m1 e1 l hl r1 r2 n0 n1 rest (A ++ [t]) (ok && fI t.c) (by rw [← hA]; simp)
    refine ⟨n + 1, ?_⟩
    rw [itP_s, done_step ok b b0 b1 m m0 e e0 m1 e1 l r1 r2 n0 n1 A t rest hA hl, List.all_cons, ← Bool.and_assoc]
    exact q
def doneR (a : Fm) : Fm := bif a.1 then badF else doneF a
def rDone_s (x : Rf) : Option Rf := bif eqL x && Nat.ble x.2.2.1.length 549755813888 then some (ofF (doneR (toF x))) else none
theorem fI_nz (m : Int) : fI (nzI m) = fI m := by
  unfold nzI
  cases h : zI m with
  | false => rfl
  | true =>
    have := zI_iff.1 h
    rw [cond_true, fI_0]
    exact (fI_iff.2 (by omega)).symm
theorem any_del : ∀ l : List Tm, (!((delZ l).any fun t => !fI t.c)) = l.all fun t => fI t.c
  | [] => rfl
  | t :: l => by
    rw [List.all_cons, ← any_del l]
    unfold delZ
    rw [List.filter_cons]
    cases h : zI t.c with
    | true =>
      have : fI t.c = true := fI_iff.2 (by have := zI_iff.1 h; omega)
      rw [this]; simp
    | false => simp
theorem rDone_ok (x y : Rf) (hg : (d1 cRf).good x) (h : rDone_s x = some y) : ∃ n, rDone n x = some y := by
  obtain ⟨h1, h2⟩ := bif_some h
  have := soi h2; subst this
  rw [Bool.and_eq_true] at h1
  have hl := Nat.le_of_ble_eq_true h1.2
  revert hl
  refine onF (P := fun x => x.2.2.1.length ≤ 549755813888 → ∃ n, rDone n x = some (ofF (doneR (toF x)))) (fun a hl => ?_) h1.1
  rw [to_of]
  obtain ⟨b, m, l, e⟩ := a
  have hl : (l.map Tm.id).length ≤ 549755813888 := hl
  rw [List.length_map] at hl
  have hf : ∀ f : Int, finK (bK (Int.toNat f)) = fI f := fun _ => rfl
  have l21 : rDone_l2 = rDone_l1 := rfl
  have tail : ∀ ok : Bool, (fI m && fI e) = ok ∨ ok = false ∧ fI m = false →
      (bif b then some ((true, ((0 : Int), (([] : List Int), (([] : List Int), (0 : Int))))) : Rf) else bif !(ok && l.all fun t => fI t.c) then some (true, ((0 : Int), (([] : List Int), (([] : List Int), (0 : Int))))) else
        (sub (((delZ l).map Tm.id).map e3) 0 (delZ l).length).bind fun x9 => (sub (((delZ l).map Tm.c).map e2) 0 (delZ l).length).bind fun x10 => (((unviews 3 x9).bind fun x11 => (((unviews 2 x10).bind fun x12 => some (x12, nzI e)).bind fun x13 => some (x11, x13))).bind fun x14 => some (nzI m, x14)).bind fun x15 => some (false, x15)) =
      some (ofF (doneR (b, (m, (l, e))))) := fun ok hok => by
    unfold doneR
    rw [doneF_eq]
    simp only [fI_nz]
    rw [any_del]
    cases b with
    | true => rfl
    | false =>
      simp only [cond_false]
      have : (ok && l.all fun t => fI t.c) = ((fI m && fI e) && l.all fun t => fI t.c) := by
        rcases hok with hok | ⟨hok, hm⟩
        · rw [hok]
        · rw [hok, hm]; rfl
      rw [this]
      cases (fI m && fI e) && l.all fun t => fI t.c with
      | false => rfl
      | true =>
        rw [Bool.not_true, cond_false, cond_true, sub_full _ _ (by simp), sub_full _ _ (by simp)]
        simp only [Option.bind_some, unviews_3, unviews_2]
        rfl
  unfold rDone ofF
  simp only [hf, l21]
  cases hm : fI m with
  | true =>
    obtain ⟨n, q⟩ := done_loop b false false m 0 e 0 (nzI m) (nzI e) l hl [] [] 0 0 l [] (fI e) rfl
    refine ⟨n, ?_⟩
    rw [cond_true]
    refine obs q ?_
    simp only []
    exact tail (fI e) (.inl (by rw [hm, Bool.true_and]))
  | false =>
    obtain ⟨n, q⟩ := done_loop b false false m 0 e 0 (nzI m) (nzI e) l hl [] [] 0 0 l [] false rfl
    refine ⟨n, ?_⟩
    rw [cond_false]
    refine obs q ?_
    simp only []
    exact tail false (.inr ⟨rfl, hm⟩)
theorem at_loop (id : Int) (b : Bool) (m e : Int) (l : List Tm) (hl : l.length ≤ 9223372036854775807) : ∀ (rest A : List Tm), A ++ rest = l →
    ∃ n y, itP n rAt_l1 (id, ((A.length : Int), (b, (m, (l.map Tm.id, (l.map Tm.c, (e, ()))))))) = some y ∧
      (y = .exit 0 (id, ((l.length : Int), (b, (m, (l.map Tm.id, (l.map Tm.c, (e, ()))))))) ∧ atN rest id = 0 ∨ y = .ret (atN rest id))
  | [], A, hA => by
    rw [List.append_nil] at hA; subst hA
    refine ⟨1, _, ?_, .inl ⟨rfl, rfl⟩⟩
    rw [itP_s]
    simp only [rAt_l1, List.length_map]
    rw [decide_eq_false (by omega), cond_false]; rfl
  | t :: rest, A, hA => by
    have hNl : A.length + (rest.length + 1) = l.length := by rw [← hA]; simp
    have hi : idx (l.map Tm.id) (A.length : Int) = some t.id := by rw [← hA]; exact idx_mid Tm.id A t rest
    have hc : idx (l.map Tm.c) (A.length : Int) = some t.c := by rw [← hA]; exact idx_mid Tm.c A t rest
    have hlt : decide ((A.length : Int) < ((l.map Tm.id).length : Nat)) = true := decide_eq_true (by rw [List.length_map]; omega)
    have hw : IntKind.i64.wrap ((A.length : Int) + 1) = (((A ++ [t]).length : Nat) : Int) := by rw [w64 (by omega) (by omega)]; simp
    have step : rAt_l1 (id, ((A.length : Int), (b, (m, (l.map Tm.id, (l.map Tm.c, (e, ()))))))) = bif decide (t.id = id) then some (.inr (.ret t.c)) else some (.inl (id, (((A ++ [t]).length : Int), (b, (m, (l.map Tm.id, (l.map Tm.c, (e, ())))))))) := by
      simp only [rAt_l1, hi, hc, hlt, cond_true, Option.bind_some, hw]
    by_cases h : t.id = id
    · refine ⟨1, .ret t.c, ?_, .inr ?_⟩
      · rw [itP_s, step, decide_eq_true h]; rfl
      · unfold atN; rw [decide_eq_true h, cond_true]
    · obtain ⟨n, y, q1, q2⟩ := at_loop id b m e l hl rest (A ++ [t]) (by rw [← hA]; simp)
      refine ⟨n + 1, y, ?_, by rw [at_tl h]; exact q2⟩
      rw [itP_s, step, decide_eq_false h]
      exact q1
def rAt_s (p : Rf × Int) : Option Int := bif eqL p.1 then some (atN (toF p.1).2.2.1 p.2) else none
theorem rAt_ok (p : Rf × Int) (y : Int) (hg : (dc cRf (d1 (cI .i64))).good p) (h : rAt_s p = some y) : ∃ n, rAt n p.1 p.2 = some y := by
  obtain ⟨x, id⟩ := p
  obtain ⟨hx, h2⟩ := bif_some h
  have := soi h2; subst this
  have hl : x.2.2.1.length ≤ maxLen := hg.1.2.2.1.2
  simp only [] at hl ⊢
  revert hl
  refine onF (P := fun x => x.2.2.1.length ≤ maxLen → ∃ n, rAt n x id = some (atN (toF x).2.2.1 id)) (fun a hl => ?_) hx
  rw [to_of]
  obtain ⟨b, m, l, e⟩ := a
  have hl : (l.map Tm.id).length ≤ maxLen := hl
  rw [List.length_map, maxLen_eq] at hl
  obtain ⟨n, y, q1, q2⟩ := at_loop id b m e l (by omega) l [] rfl
  refine ⟨n, ?_⟩
  unfold rAt ofF
  refine obs q1 ?_
  rcases q2 with ⟨rfl, q⟩ | rfl
  · simp only [q]; rfl
  · rfl
theorem ids_loop (c1 c2 : Bool) (m1 m2 e1 e2 : Int) (C1 C2 L1 L2 : List Int) (h1 : L1.length ≤ 549755813888) (h2 : L2.length ≤ 549755813888) : ∀ (n : Nat) (l m A B out : List Int), l.length + m.length ≤ n → out.length + n ≤ 549755813888 → L1 = A ++ l → L2 = B ++ m →
    ∃ fu, itP fu rIds_l1 (out.length, ((A.length : Int), ((B.length : Int), (c1, (m1, (L1, (C1, (e1, (c2, (m2, (L2, (C2, (e2, (out.map e3, ())))))))))))))) = some ((out ++ idsN n l m).length, ((L1.length : Int), ((L2.length : Int), (c1, (m1, (L1, (C1, (e1, (c2, (m2, (L2, (C2, (e2, ((out ++ idsN n l m).map e3, ())))))))))))))) := by
  intro n
  have endC : ∀ A B out : List Int, L1 = A → L2 = B → ∃ fu, itP fu rIds_l1 (out.length, ((A.length : Int), ((B.length : Int), (c1, (m1, (L1, (C1, (e1, (c2, (m2, (L2, (C2, (e2, (out.map e3, ())))))))))))))) = some (out.length, ((L1.length : Int), ((L2.length : Int), (c1, (m1, (L1, (C1, (e1, (c2, (m2, (L2, (C2, (e2, (out.map e3, ())))))))))))))) := by
    intro A B out hA hB
    subst hA hB
    refine ⟨1, ?_⟩
    have t : ∀ k : Nat, decide ((k : Int) < (k : Int)) = false := fun k => decide_eq_false (by omega)
    rw [itP_s]
    simp only [rIds_l1, rIds_l1_c4, rIds_l1_c2, rIds_l1_c1, rIds_l1_c3, t, cond_false]; rfl
  induction n with
  | zero =>
    intro l m A B out h ho hA hB
    have z1 : l = [] := List.length_eq_zero_iff.1 (by omega)
    have z2 : m = [] := List.length_eq_zero_iff.1 (by omega)
    subst z1 z2
    rw [List.append_nil] at hA hB
    simp only [idsN, List.append_nil]
    exact endC A B out hA hB
  | succ n ih =>
    intro l m A B out h ho hA hB
    have hb : Nat.ble (out.length + 1) 549755813888 = true := Nat.ble_eq_true_of_le (by omega)
    have go : ∀ (x : Int) (l' m' A' B' : List Int), l'.length + m'.length ≤ n → L1 = A' ++ l' → L2 = B' ++ m' → idsN (n + 1) l m = x :: idsN n l' m' →
        rIds_l1 (out.length, ((A.length : Int), ((B.length : Int), (c1, (m1, (L1, (C1, (e1, (c2, (m2, (L2, (C2, (e2, (out.map e3, ())))))))))))))) = some (.inl ((out ++ [x]).length, ((A'.length : Int), ((B'.length : Int), (c1, (m1, (L1, (C1, (e1, (c2, (m2, (L2, (C2, (e2, ((out ++ [x]).map e3, ()))))))))))))))) →
        ∃ fu, itP fu rIds_l1 (out.length, ((A.length : Int), ((B.length : Int), (c1, (m1, (L1, (C1, (e1, (c2, (m2, (L2, (C2, (e2, (out.map e3, ())))))))))))))) = some ((out ++ idsN (n + 1) l m).length, ((L1.length : Int), ((L2.length : Int), (c1, (m1, (L1, (C1, (e1, (c2, (m2, (L2, (C2, (e2, ((out ++ idsN (n + 1) l m).map e3, ())))))))))))))) := by
      intro x l' m' A' B' hl' hA' hB' hi hs
      obtain ⟨fu, q⟩ := ih l' m' A' B' (out ++ [x]) hl' (by simp; omega) hA' hB'
      refine ⟨fu + 1, ?_⟩
      rw [itP_s, hs, hi]
      simp only [Option.bind_some]
      rw [q, List.append_assoc, List.singleton_append]
    have hm : ∀ x : Int, out.map e3 ++ [T.s (.int .i64 x)] = (out ++ [x]).map e3 := fun x => by rw [List.map_append]; rfl
    have hl3 : ∀ x : Int, ((out ++ [x]).map e3).length = (out ++ [x]).length := fun x => List.length_map ..
    have hw1 : ∀ x : Int, A.length < L1.length → IntKind.i64.wrap ((A.length : Int) + 1) = (((A ++ [x]).length : Nat) : Int) := fun x hx => by rw [w64 (by omega) (by omega)]; simp
    have hw2 : ∀ x : Int, B.length < L2.length → IntKind.i64.wrap ((B.length : Int) + 1) = (((B ++ [x]).length : Nat) : Int) := fun x hx => by rw [w64 (by omega) (by omega)]; simp
    have ix : ∀ (K R : List Int) (x : Int), idx (K ++ x :: R) (K.length : Int) = some x := fun K R x => by
      rw [idx_nat, List.getElem?_append_right (Nat.le_refl _), Nat.sub_self]; rfl
    match l, m, h, hA, hB with
    | [], [], h, hA, hB =>
      rw [List.append_nil] at hA hB
      simp only [idsN, List.append_nil]
      exact endC A B out hA hB
    | x :: l, [], h, hA, hB =>
      simp only [List.length_cons, List.length_nil] at h
      rw [List.append_nil] at hB
      have hlt : A.length < L1.length := by rw [hA]; simp
      have i1 : idx L1 (A.length : Int) = some x := by rw [hA]; exact ix A l x
      refine go x l [] (A ++ [x]) B (by simp; omega) (by rw [hA]; simp) (by rw [hB]; simp) (by simp only [idsN]) ?_
      have t1 : decide ((A.length : Int) < (L1.length : Int)) = true := decide_eq_true (by omega)
      have t2 : decide ((L2.length : Int) ≤ (B.length : Int)) = true := decide_eq_true (by rw [hB]; omega)
      simp only [rIds_l1, rIds_l1_c4, rIds_l1_c2, rIds_l1_c1, rIds_l1_c3, t1, t2, i1, cond_true, Option.bind_some, List.length_map, beq_self, Bool.and_true, List.length_singleton, hb, hm, hl3, hw1 x hlt]
    | [], y :: m, h, hA, hB =>
      simp only [List.length_cons, List.length_nil] at h
      rw [List.append_nil] at hA
      have hlt : B.length < L2.length := by rw [hB]; simp
      have i1 : idx L2 (B.length : Int) = some y := by rw [hB]; exact ix B m y
      refine go y [] m A (B ++ [y]) (by simp; omega) (by rw [hA]; simp) (by rw [hB]; simp) (by simp only [idsN]) ?_
      have t1 : decide ((A.length : Int) < (L1.length : Int)) = false := decide_eq_false (by rw [hA]; omega)
      have t2 : decide ((L2.length : Int) ≤ (B.length : Int)) = false := decide_eq_false (by omega)
      have t3 : decide ((B.length : Int) < (L2.length : Int)) = true := decide_eq_true (by omega)
      have t4 : decide ((L1.length : Int) ≤ (A.length : Int)) = true := decide_eq_true (by rw [hA]; omega)
      simp only [rIds_l1, rIds_l1_c4, rIds_l1_c2, rIds_l1_c1, rIds_l1_c3, t1, t2, t3, t4, i1, cond_true, cond_false, Option.bind_some, List.length_map, beq_self, Bool.and_true, List.length_singleton, hb, hm, hl3, hw2 y hlt]
    | x :: l, y :: m, h, hA, hB =>
      simp only [List.length_cons] at h
      have l1 : A.length < L1.length := by rw [hA]; simp
      have l2 : B.length < L2.length := by rw [hB]; simp
      have i1 : idx L1 (A.length : Int) = some x := by rw [hA]; exact ix A l x
      have i2 : idx L2 (B.length : Int) = some y := by rw [hB]; exact ix B m y
      have t1 : decide ((A.length : Int) < (L1.length : Int)) = true := decide_eq_true (by omega)
      have t2 : decide ((L2.length : Int) ≤ (B.length : Int)) = false := decide_eq_false (by omega)
      have t4 : decide ((L1.length : Int) ≤ (A.length : Int)) = false := decide_eq_false (by omega)
      cases g1 : decide (x < y) with
      | true =>
        refine go x l (y :: m) (A ++ [x]) B (by simp; omega) (by rw [hA]; simp) hB (by simp only [idsN, g1, cond_true]) ?_
        simp only [rIds_l1, rIds_l1_c4, rIds_l1_c2, rIds_l1_c1, rIds_l1_c3, t1, t2, t4, i1, i2, g1, cond_true, cond_false, Option.bind_some, List.length_map, beq_self, Bool.and_true, List.length_singleton, hb, hm, hl3, hw1 x l1]
      | false =>
        cases g2 : decide (y < x) with
        | true =>
          refine go y (x :: l) m A (B ++ [y]) (by simp; omega) hA (by rw [hB]; simp) (by simp only [idsN, g1, g2, cond_true, cond_false]) ?_
          simp only [rIds_l1, rIds_l1_c4, rIds_l1_c2, rIds_l1_c1, rIds_l1_c3, t1, t2, t4, i1, i2, g1, g2, cond_true, cond_false, Option.bind_some, List.length_map, beq_self, Bool.and_true, List.length_singleton, hb, hm, hl3, hw2 y l2]
        | false =>
          refine go x l m (A ++ [x]) (B ++ [y]) (by omega) (by rw [hA]; simp) (by rw [hB]; simp) (by simp only [idsN, g1, g2, cond_false]) ?_
          simp only [rIds_l1, rIds_l1_c4, rIds_l1_c2, rIds_l1_c1, rIds_l1_c3, t1, t2, t4, i1, i2, g1, g2, cond_true, cond_false, Option.bind_some, List.length_map, beq_self, Bool.and_true, List.length_singleton, hb, hm, hl3, hw1 x l1, hw2 y l2]
def rIds_s (p : Rf × Rf) : Option (List Int) := bif Nat.ble (p.1.2.2.1.length + p.2.2.2.1.length) 549755813888 then some (idsN (p.1.2.2.1.length + p.2.2.2.1.length) p.1.2.2.1 p.2.2.2.1) else none
theorem rIds_ok (p : Rf × Rf) (y : List Int) (hg : (dc cRf (d1 cRf)).good p) (h : rIds_s p = some y) : ∃ n, rIds n p.1 p.2 = some y := by
  obtain ⟨⟨b1, m1, i1, c1, e1⟩, b2, m2, i2, c2, e2⟩ := p
  obtain ⟨h1, h2⟩ := bif_some h
  have := soi h2; subst this
  have hl : i1.length + i2.length ≤ 549755813888 := Nat.le_of_ble_eq_true h1
  obtain ⟨n, q⟩ := ids_loop b1 b2 m1 m2 e1 e2 c1 c2 i1 i2 (by omega) (by omega) (i1.length + i2.length) i1 i2 [] [] [] (Nat.le_refl _) (by simpa using hl) rfl rfl
  refine ⟨n, ?_⟩
  unfold rIds
  refine obs q ?_
  simp only [List.nil_append]
  exact obs (sub_full _ _ (by simp)) (unviews_3 _)
end
end Su
