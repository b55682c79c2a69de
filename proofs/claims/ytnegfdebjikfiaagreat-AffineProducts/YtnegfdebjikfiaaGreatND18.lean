/-
  What functions of the program compute, in plain Lean, and that the evaluator finds it.
-/
import Derived.Test.YtnegfdebjikfiaaGreatSuSd
import Derived.Test.YtnegfdebjikfiaaGreatNC23
set_option maxRecDepth 10000
section
namespace Su
open Go Fly
set_option linter.unusedVariables false
noncomputable section
abbrev rMulF_l1_S := (Int × (Int × ((List Su.T) × ((List Su.T) × (Bool × (Int × (Nat × (Nat × (Int × (Bool × (Int × ((List Int) × ((List Int) × (Int × (Bool × (Int × ((List Int) × ((List Int) × (Int × (Bool × (Int × ((List Int) × (Nat × (Int × ((List Su.T) × Unit)))))))))))))))))))))))))
def rMulF_l1 : rMulF_l1_S → Option (rMulF_l1_S ⊕ (Lp rMulF_l1_S (Bool × (Int × ((List Int) × ((List Int) × Int)))))) := fun p5 => (bif (decide ((p5.2.1 < (((List.length p5.2.2.2.2.2.2.2.2.2.2.2.2.2.2.2.2.2.2.2.2.2.1) : Nat) : Int)))) then
  ((Su.idx p5.2.2.2.2.2.2.2.2.2.2.2.2.2.2.2.2.2.2.2.2.2.1 p5.2.1)).bind fun x6 =>
  ((Su.rAt_s ((p5.2.2.2.2.2.2.2.2.2.2.2.2.2.2.1, (p5.2.2.2.2.2.2.2.2.2.2.2.2.2.2.2.1, (p5.2.2.2.2.2.2.2.2.2.2.2.2.2.2.2.2.1, (p5.2.2.2.2.2.2.2.2.2.2.2.2.2.2.2.2.2.1, p5.2.2.2.2.2.2.2.2.2.2.2.2.2.2.2.2.2.2.1)))), x6))).bind fun x7 =>
  ((Su.idx p5.2.2.2.2.2.2.2.2.2.2.2.2.2.2.2.2.2.2.2.2.2.1 p5.2.1)).bind fun x8 =>
  ((Su.rAt_s ((p5.2.2.2.2.2.2.2.2.2.1, (p5.2.2.2.2.2.2.2.2.2.2.1, (p5.2.2.2.2.2.2.2.2.2.2.2.1, (p5.2.2.2.2.2.2.2.2.2.2.2.2.1, p5.2.2.2.2.2.2.2.2.2.2.2.2.2.1)))), x8))).bind fun x9 =>
  (bif (!(decide ((x7 = 0)))) then
  (bif (!(decide ((x9 = 0)))) then
  (bif (!(Su.finK (Su.bK (Int.toNat (Su.mulI p5.2.2.2.2.2.2.2.2.2.2.1 x7 0))))) then
  some (.inr (.ret (true, ((0 : Int), ([], ([], (0 : Int)))))))
 else
  (bif (!(Su.finK (Su.bK (Int.toNat (Su.mulI p5.2.2.2.2.2.2.2.2.2.2.2.2.2.2.2.1 x9 0))))) then
  some (.inr (.ret (true, ((0 : Int), ([], ([], (0 : Int)))))))
 else
  (bif ((true && (Nat.beq p5.2.2.2.2.2.2.2.2.2.2.2.2.2.2.2.2.2.2.2.2.2.2.1 (List.length p5.2.2.2.2.2.2.2.2.2.2.2.2.2.2.2.2.2.2.2.2.2.2.2.2.1))) && (Nat.ble ((List.length p5.2.2.2.2.2.2.2.2.2.2.2.2.2.2.2.2.2.2.2.2.2.2.2.2.1) + (List.length [(T.s (.int .u64 (Su.addI (Su.mulI p5.2.2.2.2.2.2.2.2.2.2.1 x7 0) (Su.mulI p5.2.2.2.2.2.2.2.2.2.2.2.2.2.2.2.1 x9 0) 0)))])) 549755813888)) then
  some (.inl ((Su.addI (Su.addI (Su.addI p5.1 (Su.slkM p5.2.2.2.2.2.2.2.2.2.2.1 x7) 1) (Su.slkM p5.2.2.2.2.2.2.2.2.2.2.2.2.2.2.2.1 x9) 1) (Su.slkA (Su.mulI p5.2.2.2.2.2.2.2.2.2.2.1 x7 0) (Su.mulI p5.2.2.2.2.2.2.2.2.2.2.2.2.2.2.2.1 x9 0)) 1), ((Go.IntKind.wrap .i64 (p5.2.1 + 1)), (p5.2.2.1, (p5.2.2.2.1, (p5.2.2.2.2.1, (p5.2.2.2.2.2.1, (p5.2.2.2.2.2.2.1, (p5.2.2.2.2.2.2.2.1, (p5.2.2.2.2.2.2.2.2.1, (p5.2.2.2.2.2.2.2.2.2.1, (p5.2.2.2.2.2.2.2.2.2.2.1, (p5.2.2.2.2.2.2.2.2.2.2.2.1, (p5.2.2.2.2.2.2.2.2.2.2.2.2.1, (p5.2.2.2.2.2.2.2.2.2.2.2.2.2.1, (p5.2.2.2.2.2.2.2.2.2.2.2.2.2.2.1, (p5.2.2.2.2.2.2.2.2.2.2.2.2.2.2.2.1, (p5.2.2.2.2.2.2.2.2.2.2.2.2.2.2.2.2.1, (p5.2.2.2.2.2.2.2.2.2.2.2.2.2.2.2.2.2.1, (p5.2.2.2.2.2.2.2.2.2.2.2.2.2.2.2.2.2.2.1, (p5.2.2.2.2.2.2.2.2.2.2.2.2.2.2.2.2.2.2.2.1, (p5.2.2.2.2.2.2.2.2.2.2.2.2.2.2.2.2.2.2.2.2.1, (p5.2.2.2.2.2.2.2.2.2.2.2.2.2.2.2.2.2.2.2.2.2.1, ((List.length (p5.2.2.2.2.2.2.2.2.2.2.2.2.2.2.2.2.2.2.2.2.2.2.2.2.1 ++ [(T.s (.int .u64 (Su.addI (Su.mulI p5.2.2.2.2.2.2.2.2.2.2.1 x7 0) (Su.mulI p5.2.2.2.2.2.2.2.2.2.2.2.2.2.2.2.1 x9 0) 0)))])), (p5.2.2.2.2.2.2.2.2.2.2.2.2.2.2.2.2.2.2.2.2.2.2.2.1, ((p5.2.2.2.2.2.2.2.2.2.2.2.2.2.2.2.2.2.2.2.2.2.2.2.2.1 ++ [(T.s (.int .u64 (Su.addI (Su.mulI p5.2.2.2.2.2.2.2.2.2.2.1 x7 0) (Su.mulI p5.2.2.2.2.2.2.2.2.2.2.2.2.2.2.2.1 x9 0) 0)))]), ()))))))))))))))))))))))))))
 else
  none)))
 else
  (bif (!(Su.finK (Su.bK (Int.toNat (Su.mulI p5.2.2.2.2.2.2.2.2.2.2.1 x7 0))))) then
  some (.inr (.ret (true, ((0 : Int), ([], ([], (0 : Int)))))))
 else
  (bif ((true && (Nat.beq p5.2.2.2.2.2.2.2.2.2.2.2.2.2.2.2.2.2.2.2.2.2.2.1 (List.length p5.2.2.2.2.2.2.2.2.2.2.2.2.2.2.2.2.2.2.2.2.2.2.2.2.1))) && (Nat.ble ((List.length p5.2.2.2.2.2.2.2.2.2.2.2.2.2.2.2.2.2.2.2.2.2.2.2.2.1) + (List.length [(T.s (.int .u64 (Su.addI (Su.mulI p5.2.2.2.2.2.2.2.2.2.2.1 x7 0) 0 0)))])) 549755813888)) then
  some (.inl ((Su.addI (Su.addI p5.1 (Su.slkM p5.2.2.2.2.2.2.2.2.2.2.1 x7) 1) (Su.slkA (Su.mulI p5.2.2.2.2.2.2.2.2.2.2.1 x7 0) 0) 1), ((Go.IntKind.wrap .i64 (p5.2.1 + 1)), (p5.2.2.1, (p5.2.2.2.1, (p5.2.2.2.2.1, (p5.2.2.2.2.2.1, (p5.2.2.2.2.2.2.1, (p5.2.2.2.2.2.2.2.1, (p5.2.2.2.2.2.2.2.2.1, (p5.2.2.2.2.2.2.2.2.2.1, (p5.2.2.2.2.2.2.2.2.2.2.1, (p5.2.2.2.2.2.2.2.2.2.2.2.1, (p5.2.2.2.2.2.2.2.2.2.2.2.2.1, (p5.2.2.2.2.2.2.2.2.2.2.2.2.2.1, (p5.2.2.2.2.2.2.2.2.2.2.2.2.2.2.1, (p5.2.2.2.2.2.2.2.2.2.2.2.2.2.2.2.1, (p5.2.2.2.2.2.2.2.2.2.2.2.2.2.2.2.2.1, (p5.2.2.2.2.2.2.2.2.2.2.2.2.2.2.2.2.2.1, (p5.2.2.2.2.2.2.2.2.2.2.2.2.2.2.2.2.2.2.1, (p5.2.2.2.2.2.2.2.2.2.2.2.2.2.2.2.2.2.2.2.1, (p5.2.2.2.2.2.2.2.2.2.2.2.2.2.2.2.2.2.2.2.2.1, (p5.2.2.2.2.2.2.2.2.2.2.2.2.2.2.2.2.2.2.2.2.2.1, ((List.length (p5.2.2.2.2.2.2.2.2.2.2.2.2.2.2.2.2.2.2.2.2.2.2.2.2.1 ++ [(T.s (.int .u64 (Su.addI (Su.mulI p5.2.2.2.2.2.2.2.2.2.2.1 x7 0) 0 0)))])), (p5.2.2.2.2.2.2.2.2.2.2.2.2.2.2.2.2.2.2.2.2.2.2.2.1, ((p5.2.2.2.2.2.2.2.2.2.2.2.2.2.2.2.2.2.2.2.2.2.2.2.2.1 ++ [(T.s (.int .u64 (Su.addI (Su.mulI p5.2.2.2.2.2.2.2.2.2.2.1 x7 0) 0 0)))]), ()))))))))))))))))))))))))))
 else
  none)))
 else
  (bif (!(decide ((x9 = 0)))) then
  (bif (!(Su.finK (Su.bK (Int.toNat (Su.mulI p5.2.2.2.2.2.2.2.2.2.2.2.2.2.2.2.1 x9 0))))) then
  some (.inr (.ret (true, ((0 : Int), ([], ([], (0 : Int)))))))
 else
  (bif ((true && (Nat.beq p5.2.2.2.2.2.2.2.2.2.2.2.2.2.2.2.2.2.2.2.2.2.2.1 (List.length p5.2.2.2.2.2.2.2.2.2.2.2.2.2.2.2.2.2.2.2.2.2.2.2.2.1))) && (Nat.ble ((List.length p5.2.2.2.2.2.2.2.2.2.2.2.2.2.2.2.2.2.2.2.2.2.2.2.2.1) + (List.length [(T.s (.int .u64 (Su.addI 0 (Su.mulI p5.2.2.2.2.2.2.2.2.2.2.2.2.2.2.2.1 x9 0) 0)))])) 549755813888)) then
  some (.inl ((Su.addI (Su.addI p5.1 (Su.slkM p5.2.2.2.2.2.2.2.2.2.2.2.2.2.2.2.1 x9) 1) (Su.slkA 0 (Su.mulI p5.2.2.2.2.2.2.2.2.2.2.2.2.2.2.2.1 x9 0)) 1), ((Go.IntKind.wrap .i64 (p5.2.1 + 1)), (p5.2.2.1, (p5.2.2.2.1, (p5.2.2.2.2.1, (p5.2.2.2.2.2.1, (p5.2.2.2.2.2.2.1, (p5.2.2.2.2.2.2.2.1, (p5.2.2.2.2.2.2.2.2.1, (p5.2.2.2.2.2.2.2.2.2.1, (p5.2.2.2.2.2.2.2.2.2.2.1, (p5.2.2.2.2.2.2.2.2.2.2.2.1, (p5.2.2.2.2.2.2.2.2.2.2.2.2.1, (p5.2.2.2.2.2.2.2.2.2.2.2.2.2.1, (p5.2.2.2.2.2.2.2.2.2.2.2.2.2.2.1, (p5.2.2.2.2.2.2.2.2.2.2.2.2.2.2.2.1, (p5.2.2.2.2.2.2.2.2.2.2.2.2.2.2.2.2.1, (p5.2.2.2.2.2.2.2.2.2.2.2.2.2.2.2.2.2.1, (p5.2.2.2.2.2.2.2.2.2.2.2.2.2.2.2.2.2.2.1, (p5.2.2.2.2.2.2.2.2.2.2.2.2.2.2.2.2.2.2.2.1, (p5.2.2.2.2.2.2.2.2.2.2.2.2.2.2.2.2.2.2.2.2.1, (p5.2.2.2.2.2.2.2.2.2.2.2.2.2.2.2.2.2.2.2.2.2.1, ((List.length (p5.2.2.2.2.2.2.2.2.2.2.2.2.2.2.2.2.2.2.2.2.2.2.2.2.1 ++ [(T.s (.int .u64 (Su.addI 0 (Su.mulI p5.2.2.2.2.2.2.2.2.2.2.2.2.2.2.2.1 x9 0) 0)))])), (p5.2.2.2.2.2.2.2.2.2.2.2.2.2.2.2.2.2.2.2.2.2.2.2.1, ((p5.2.2.2.2.2.2.2.2.2.2.2.2.2.2.2.2.2.2.2.2.2.2.2.2.1 ++ [(T.s (.int .u64 (Su.addI 0 (Su.mulI p5.2.2.2.2.2.2.2.2.2.2.2.2.2.2.2.1 x9 0) 0)))]), ()))))))))))))))))))))))))))
 else
  none))
 else
  (bif ((true && (Nat.beq p5.2.2.2.2.2.2.2.2.2.2.2.2.2.2.2.2.2.2.2.2.2.2.1 (List.length p5.2.2.2.2.2.2.2.2.2.2.2.2.2.2.2.2.2.2.2.2.2.2.2.2.1))) && (Nat.ble ((List.length p5.2.2.2.2.2.2.2.2.2.2.2.2.2.2.2.2.2.2.2.2.2.2.2.2.1) + 1) 549755813888)) then
  some (.inl ((Su.addI p5.1 (Su.slkA 0 0) 1), ((Go.IntKind.wrap .i64 (p5.2.1 + 1)), (p5.2.2.1, (p5.2.2.2.1, (p5.2.2.2.2.1, (p5.2.2.2.2.2.1, (p5.2.2.2.2.2.2.1, (p5.2.2.2.2.2.2.2.1, (p5.2.2.2.2.2.2.2.2.1, (p5.2.2.2.2.2.2.2.2.2.1, (p5.2.2.2.2.2.2.2.2.2.2.1, (p5.2.2.2.2.2.2.2.2.2.2.2.1, (p5.2.2.2.2.2.2.2.2.2.2.2.2.1, (p5.2.2.2.2.2.2.2.2.2.2.2.2.2.1, (p5.2.2.2.2.2.2.2.2.2.2.2.2.2.2.1, (p5.2.2.2.2.2.2.2.2.2.2.2.2.2.2.2.1, (p5.2.2.2.2.2.2.2.2.2.2.2.2.2.2.2.2.1, (p5.2.2.2.2.2.2.2.2.2.2.2.2.2.2.2.2.2.1, (p5.2.2.2.2.2.2.2.2.2.2.2.2.2.2.2.2.2.2.1, (p5.2.2.2.2.2.2.2.2.2.2.2.2.2.2.2.2.2.2.2.1, (p5.2.2.2.2.2.2.2.2.2.2.2.2.2.2.2.2.2.2.2.2.1, (p5.2.2.2.2.2.2.2.2.2.2.2.2.2.2.2.2.2.2.2.2.2.1, ((List.length (p5.2.2.2.2.2.2.2.2.2.2.2.2.2.2.2.2.2.2.2.2.2.2.2.2.1 ++ [(T.s (.int .u64 (Su.addI 0 0 0)))])), (p5.2.2.2.2.2.2.2.2.2.2.2.2.2.2.2.2.2.2.2.2.2.2.2.1, ((p5.2.2.2.2.2.2.2.2.2.2.2.2.2.2.2.2.2.2.2.2.2.2.2.2.1 ++ [(T.s (.int .u64 (Su.addI 0 0 0)))]), ()))))))))))))))))))))))))))
 else
  none)))
 else
  some (.inr (.exit 0 (p5.1, (p5.2.1, (p5.2.2.1, (p5.2.2.2.1, (p5.2.2.2.2.1, (p5.2.2.2.2.2.1, (p5.2.2.2.2.2.2.1, (p5.2.2.2.2.2.2.2.1, (p5.2.2.2.2.2.2.2.2.1, (p5.2.2.2.2.2.2.2.2.2.1, (p5.2.2.2.2.2.2.2.2.2.2.1, (p5.2.2.2.2.2.2.2.2.2.2.2.1, (p5.2.2.2.2.2.2.2.2.2.2.2.2.1, (p5.2.2.2.2.2.2.2.2.2.2.2.2.2.1, (p5.2.2.2.2.2.2.2.2.2.2.2.2.2.2.1, (p5.2.2.2.2.2.2.2.2.2.2.2.2.2.2.2.1, (p5.2.2.2.2.2.2.2.2.2.2.2.2.2.2.2.2.1, (p5.2.2.2.2.2.2.2.2.2.2.2.2.2.2.2.2.2.1, (p5.2.2.2.2.2.2.2.2.2.2.2.2.2.2.2.2.2.2.1, (p5.2.2.2.2.2.2.2.2.2.2.2.2.2.2.2.2.2.2.2.1, (p5.2.2.2.2.2.2.2.2.2.2.2.2.2.2.2.2.2.2.2.2.1, (p5.2.2.2.2.2.2.2.2.2.2.2.2.2.2.2.2.2.2.2.2.2.1, (p5.2.2.2.2.2.2.2.2.2.2.2.2.2.2.2.2.2.2.2.2.2.2.1, (p5.2.2.2.2.2.2.2.2.2.2.2.2.2.2.2.2.2.2.2.2.2.2.2.1, (p5.2.2.2.2.2.2.2.2.2.2.2.2.2.2.2.2.2.2.2.2.2.2.2.2.1, ()))))))))))))))))))))))))))))
def rMulF  (fu : Nat) (a : (Bool × (Int × ((List Int) × ((List Int) × Int))))) (b : (Bool × (Int × ((List Int) × ((List Int) × Int))))) : Option (Bool × (Int × ((List Int) × ((List Int) × Int)))) :=
  ((Su.rIn (a.1, (a.2.1, (a.2.2.1, (a.2.2.2.1, a.2.2.2.2)))))).bind fun x0 =>
  ((Su.rIn (b.1, (b.2.1, (b.2.2.1, (b.2.2.2.1, b.2.2.2.2)))))).bind fun x1 =>
  (bif x0.1 then
  some (true, ((0 : Int), ([], ([], (0 : Int)))))
 else
  (bif x1.1 then
  some (true, ((0 : Int), ([], ([], (0 : Int)))))
 else
  ((Su.rIds_s ((x0.1, (x0.2.1, (x0.2.2.1, (x0.2.2.2.1, x0.2.2.2.2)))), (x1.1, (x1.2.1, (x1.2.2.1, (x1.2.2.2.1, x1.2.2.2.2))))))).bind fun x2 =>
  ((Su.rRad_s (x0.1, ((0 : Int), (x0.2.2.1, (x0.2.2.2.1, x0.2.2.2.2)))))).bind fun x3 =>
  ((Su.rRad_s (x1.1, ((0 : Int), (x1.2.2.1, (x1.2.2.2.1, x1.2.2.2.2)))))).bind fun x4 =>
  (bif (!(Su.finK (Su.bK (Int.toNat x3)))) then
  some (true, ((0 : Int), ([], ([], (0 : Int)))))
 else
  (bif (!(Su.finK (Su.bK (Int.toNat x4)))) then
  some (true, ((0 : Int), ([], ([], (0 : Int)))))
 else
  (itP fu (rMulF_l1) ((Su.addI (Su.addI (Su.addI (Su.addI 0 (Su.slkM x0.2.1 x1.2.1) 1) (Su.mulI (Su.absI x0.2.1) x1.2.2.2.2 1) 1) (Su.mulI (Su.absI x1.2.1) x0.2.2.2.2 1) 1) (Su.mulI x3 x4 1) 1), ((0 : Int), ([], ([], (false, ((0 : Int), (0, (0, ((0 : Int), (x0.1, (x0.2.1, (x0.2.2.1, (x0.2.2.2.1, (x0.2.2.2.2, (x1.1, (x1.2.1, (x1.2.2.1, (x1.2.2.2.1, (x1.2.2.2.2, (false, ((Su.mulI x0.2.1 x1.2.1 0), (x2, (0, ((0 : Int), ([], ())))))))))))))))))))))))))).bind fun x10 =>
  (match x10 with
 | .exit i11 p12 => (bif (Nat.beq i11 0) then
  ((Su.sub p12.2.2.2.2.2.2.2.2.2.2.2.2.2.2.2.2.2.2.2.2.2.2.2.2.1 0 p12.2.2.2.2.2.2.2.2.2.2.2.2.2.2.2.2.2.2.2.2.2.2.1)).bind fun x13 =>
  ((Su.sub p12.2.2.2.2.2.2.2.2.2.2.2.2.2.2.2.2.2.2.2.2.2.2.2.2.1 0 p12.2.2.2.2.2.2.2.2.2.2.2.2.2.2.2.2.2.2.2.2.2.2.1)).bind fun x14 =>
  (((((((Su.unviews 2 x13)).bind fun x15 =>
  some (x15, p12.1)).bind fun x16 =>
  some (p12.2.2.2.2.2.2.2.2.2.2.2.2.2.2.2.2.2.2.2.2.2.1, x16)).bind fun x17 =>
  some (p12.2.2.2.2.2.2.2.2.2.2.2.2.2.2.2.2.2.2.2.2.1, x17)).bind fun x18 =>
  some (p12.2.2.2.2.2.2.2.2.2.2.2.2.2.2.2.2.2.2.2.1, x18)).bind fun x19 =>
  (bif ((Su.eqL x19) && (Nat.ble (List.length x19.2.2.1) 549755813888)) then
  some (Su.ofF (Su.doneR (Su.toF x19)))
 else
  none)).bind fun x20 =>
  some (x20.1, (x20.2.1, (x20.2.2.1, (x20.2.2.2.1, x20.2.2.2.2))))
 else
  none)
 | .ret o21 => some o21)))))
set_option linter.unusedSimpArgs false
def mulR (ma mb e x y : Int) : Int × Int :=
  (addI (bif decide (y = 0) then 0 else mulI ma y 0) (bif decide (x = 0) then 0 else mulI mb x 0) 0,
   addI (bif decide (x = 0) then (bif decide (y = 0) then e else addI e (slkM ma y) 1) else addI (bif decide (y = 0) then e else addI e (slkM ma y) 1) (slkM mb x) 1)
     (slkA (bif decide (y = 0) then 0 else mulI ma y 0) (bif decide (x = 0) then 0 else mulI mb x 0)) 1)
theorem wd_slkM {x y : Int} (wx : Wd64 x) (wy : Wd64 y) : Wd64 (slkM x y) := wd_add (wd_mul wx wy 1) (wd_neg (wd_mul wx wy 2)) 1
theorem mul_DR {ma mb e x y : Int} (h : Cle e) (wa : Wd64 ma) (wb : Wd64 mb) (wx : Wd64 x) (wy : Wd64 y) : mulD ma mb e x y = mulR ma mb e x y ∧ Cle (mulR ma mb e x y).2 := by
  have hp : Wd64 (bif decide (y = 0) then 0 else mulI ma y 0) := by cases decide (y = 0); exact wd_mul wa wy 0; exact wd_0
  have hq : Wd64 (bif decide (x = 0) then 0 else mulI mb x 0) := by cases decide (x = 0); exact wd_mul wb wx 0; exact wd_0
  have hs := wd_slkA hp hq
  have c1 : (bif decide (y = 0) then e else upI [e, slkM ma y]) = (bif decide (y = 0) then e else addI e (slkM ma y) 1) ∧ Cle (bif decide (y = 0) then e else addI e (slkM ma y) 1) := by
    cases decide (y = 0) with
    | true => exact ⟨rfl, h⟩
    | false => exact cle_up h (wd_slkM wa wy)
  unfold mulD mulR
  generalize (bif decide (y = 0) then 0 else mulI ma y 0) = p at *
  generalize (bif decide (x = 0) then 0 else mulI mb x 0) = q at *
  obtain ⟨c1, c2⟩ := c1
  rw [c1]
  generalize (bif decide (y = 0) then e else addI e (slkM ma y) 1) = e1 at *
  have c3 : (bif decide (x = 0) then e1 else upI [e1, slkM mb x]) = (bif decide (x = 0) then e1 else addI e1 (slkM mb x) 1) ∧ Cle (bif decide (x = 0) then e1 else addI e1 (slkM mb x) 1) := by
    cases decide (x = 0) with
    | true => exact ⟨rfl, c2⟩
    | false => exact cle_up c2 (wd_slkM wb wx)
  obtain ⟨c3, c4⟩ := c3
  rw [c3]
  obtain ⟨c5, c6⟩ := cle_up c4 hs
  rw [c5]
  exact ⟨rfl, c6⟩
theorem genR_ok (ma mb : Int) (x y : Int → Int) : ∀ (l : List Int) (e : Int), ((genR (okE ma mb) x y l e).1.all fun c => decide (c = 0)) = l.all fun i => okD ma mb (x i) (y i)
  | [], _ => rfl
  | i :: l, e => by
    simp only [genR, List.all_cons, okE]
    rw [genR_ok ma mb x y l e]
    cases okD ma mb (x i) (y i) <;> rfl
theorem okMm_all {ma mb : Int} {n : Nat} {l m : List Tm} {k : Int} (hn : l.length + m.length ≤ n) (hl : riseF k l = true) (hm : riseF k m = true) :
    okMm ma mb n l m = (idsN n (l.map Tm.id) (m.map Tm.id)).all fun i => okD ma mb (atN l i) (atN m i) := by
  obtain ⟨_, h2⟩ := merge_gen (okE ma mb) n l m k 0 hn hl hm
  rw [← genR_ok ma mb (atN l) (atN m) _ 0, ← h2]
  unfold okMm
  rw [List.all_map]; rfl
theorem rmul_loop (r1 r2 : List T) (z0 z5 : Bool) (k1 k4 k5 k6 : Int) (n2 n3 : Nat) (a b : Fm) (I : List Int) (hI : I.length ≤ 549755813888) : ∀ (rest A cs : List Int) (e : Int), A ++ rest = I → cs.length = A.length →
    ∃ n y, itP n rMulF_l1 (e, ((A.length : Int), (r1, (r2, (z0, (k1, (n2, (n3, (k4, ((ofF a).1, ((ofF a).2.1, ((ofF a).2.2.1, ((ofF a).2.2.2.1, ((ofF a).2.2.2.2, ((ofF b).1, ((ofF b).2.1, ((ofF b).2.2.1, ((ofF b).2.2.2.1, ((ofF b).2.2.2.2, (z5, (k5, (I, (cs.length, (k6, (cs.map e2, ()))))))))))))))))))))))))) = some y ∧
      (((rest.all fun i => okD a.2.1 b.2.1 (atN a.2.2.1 i) (atN b.2.2.1 i)) = true ∧ y = .exit 0 ((genR (mulR a.2.1 b.2.1) (atN a.2.2.1) (atN b.2.2.1) rest e).2, ((I.length : Int), (r1, (r2, (z0, (k1, (n2, (n3, (k4, ((ofF a).1, ((ofF a).2.1, ((ofF a).2.2.1, ((ofF a).2.2.2.1, ((ofF a).2.2.2.2, ((ofF b).1, ((ofF b).2.1, ((ofF b).2.2.1, ((ofF b).2.2.2.1, ((ofF b).2.2.2.2, (z5, (k5, (I, ((cs ++ (genR (mulR a.2.1 b.2.1) (atN a.2.2.1) (atN b.2.2.1) rest e).1).length, (k6, ((cs ++ (genR (mulR a.2.1 b.2.1) (atN a.2.2.1) (atN b.2.2.1) rest e).1).map e2, ()))))))))))))))))))))))))))
      ∨ ((rest.all fun i => okD a.2.1 b.2.1 (atN a.2.2.1 i) (atN b.2.2.1 i)) = false ∧ y = .ret (true, ((0 : Int), ([], ([], (0 : Int)))))))
  | [], A, cs, e, hA, hc => by
    rw [List.append_nil] at hA; subst hA
    refine ⟨1, _, ?_, .inl ⟨rfl, rfl⟩⟩
    have t : ∀ k : Nat, decide ((k : Int) < (k : Int)) = false := fun k => decide_eq_false (by omega)
    rw [itP_s]
    simp only [rMulF_l1, t, cond_false, genR, List.append_nil]; rfl
  | i :: rest, A, cs, e, hA, hcs => by
    have hNl : A.length + (rest.length + 1) = I.length := by rw [← hA]; simp
    have hi : idx I (A.length : Int) = some i := by
      have := idx_mid (fun x : Int => x) A i rest
      rw [List.map_id', hA] at this; exact this
    have hlt : decide ((A.length : Int) < ((I.length : Nat) : Int)) = true := decide_eq_true (by omega)
    have hw : IntKind.i64.wrap ((A.length : Int) + 1) = (((A ++ [i]).length : Nat) : Int) := by rw [w64 (by omega) (by omega)]; simp
    have hb : Nat.ble (cs.length + 1) 549755813888 = true := Nat.ble_eq_true_of_le (by omega)
    have ra : rAt_s (((ofF a).1, (a.2.1, ((ofF a).2.2.1, ((ofF a).2.2.2.1, (ofF a).2.2.2.2)))), i) = some (atN a.2.2.1 i) := rAt_of a i
    have rb : rAt_s (((ofF b).1, (b.2.1, ((ofF b).2.2.1, ((ofF b).2.2.2.1, (ofF b).2.2.2.2)))), i) = some (atN b.2.2.1 i) := rAt_of b i
    have hm : ∀ c : Int, cs.map e2 ++ [T.s (.int .u64 c)] = (cs ++ [c]).map e2 := fun c => by rw [List.map_append]; rfl
    have hl : ∀ c : Int, ((cs ++ [c]).map e2).length = (cs ++ [c]).length := fun c => List.length_map ..
    have hl2 : (cs.map e2).length = cs.length := List.length_map ..
    have hf : ∀ f : Int, finK (bK (Int.toNat f)) = fI f := fun _ => rfl
    have ha1 : (ofF a).2.1 = a.2.1 := rfl
    have hb1 : (ofF b).2.1 = b.2.1 := rfl
    obtain ⟨n, y, h, hy⟩ := rmul_loop r1 r2 z0 z5 k1 k4 k5 k6 n2 n3 a b I hI rest (A ++ [i]) (cs ++ [(mulR a.2.1 b.2.1 e (atN a.2.2.1 i) (atN b.2.2.1 i)).1]) (mulR a.2.1 b.2.1 e (atN a.2.2.1 i) (atN b.2.2.1 i)).2 (by rw [← hA]; simp) (by simp [hcs])
    rw [List.append_assoc, List.singleton_append] at hy
    have bad : ∀ z, rMulF_l1 (e, ((A.length : Int), (r1, (r2, (z0, (k1, (n2, (n3, (k4, ((ofF a).1, ((ofF a).2.1, ((ofF a).2.2.1, ((ofF a).2.2.2.1, ((ofF a).2.2.2.2, ((ofF b).1, ((ofF b).2.1, ((ofF b).2.2.1, ((ofF b).2.2.2.1, ((ofF b).2.2.2.2, (z5, (k5, (I, (cs.length, (k6, (cs.map e2, ()))))))))))))))))))))))))) = some (.inr z) →
        itP 1 rMulF_l1 (e, ((A.length : Int), (r1, (r2, (z0, (k1, (n2, (n3, (k4, ((ofF a).1, ((ofF a).2.1, ((ofF a).2.2.1, ((ofF a).2.2.2.1, ((ofF a).2.2.2.2, ((ofF b).1, ((ofF b).2.1, ((ofF b).2.2.1, ((ofF b).2.2.2.1, ((ofF b).2.2.2.2, (z5, (k5, (I, (cs.length, (k6, (cs.map e2, ()))))))))))))))))))))))))) = some z := fun z hz => by rw [itP_s, hz]; rfl
    have step : rMulF_l1 (e, ((A.length : Int), (r1, (r2, (z0, (k1, (n2, (n3, (k4, ((ofF a).1, ((ofF a).2.1, ((ofF a).2.2.1, ((ofF a).2.2.2.1, ((ofF a).2.2.2.2, ((ofF b).1, ((ofF b).2.1, ((ofF b).2.2.1, ((ofF b).2.2.2.1, ((ofF b).2.2.2.2, (z5, (k5, (I, (cs.length, (k6, (cs.map e2, ()))))))))))))))))))))))))) =
        bif okD a.2.1 b.2.1 (atN a.2.2.1 i) (atN b.2.2.1 i) then some (.inl ((mulR a.2.1 b.2.1 e (atN a.2.2.1 i) (atN b.2.2.1 i)).2, (((A ++ [i]).length : Int), (r1, (r2, (z0, (k1, (n2, (n3, (k4, ((ofF a).1, ((ofF a).2.1, ((ofF a).2.2.1, ((ofF a).2.2.2.1, ((ofF a).2.2.2.2, ((ofF b).1, ((ofF b).2.1, ((ofF b).2.2.1, ((ofF b).2.2.2.1, ((ofF b).2.2.2.2, (z5, (k5, (I, ((cs ++ [(mulR a.2.1 b.2.1 e (atN a.2.2.1 i) (atN b.2.2.1 i)).1]).length, (k6, ((cs ++ [(mulR a.2.1 b.2.1 e (atN a.2.2.1 i) (atN b.2.2.1 i)).1]).map e2, ())))))))))))))))))))))))))) else some (.inr (.ret (true, ((0 : Int), ([], ([], (0 : Int)))))))  := by
      simp only [rMulF_l1, hi, hlt, ra, rb, cond_true, Option.bind_some, hw, hf, ha1, hb1, List.length_singleton, mulR, okD]
      cases decide (atN b.2.2.1 i = 0) <;> cases decide (atN a.2.2.1 i = 0) <;> simp only [Bool.not_true, Bool.not_false, cond_true, cond_false, fI_0, Bool.true_and, Bool.and_true, hm, hl, hl2, beq_self, hb]
      · cases fI (mulI a.2.1 (atN b.2.2.1 i) 0) <;> cases fI (mulI b.2.1 (atN a.2.2.1 i) 0) <;> rfl
      · cases fI (mulI a.2.1 (atN b.2.2.1 i) 0) <;> rfl
      · cases fI (mulI b.2.1 (atN a.2.2.1 i) 0) <;> rfl
    cases hok : okD a.2.1 b.2.1 (atN a.2.2.1 i) (atN b.2.2.1 i) with
    | false =>
      rw [hok, cond_false] at step
      refine ⟨1, _, bad _ step, .inr ⟨?_, rfl⟩⟩
      rw [List.all_cons, hok]; rfl
    | true =>
      rw [hok, cond_true] at step
      refine ⟨n + 1, y, ?_, ?_⟩
      · rw [itP_s, step]; exact h
      · rw [List.all_cons, hok, Bool.true_and]
        exact hy
theorem rRad_of {a : Fm} (h : a.2.2.1.length ≤ 500000000000) : rRad_s (ofF a) = some (radF a) := by
  unfold rRad_s
  rw [okR_of h, to_of, cond_true]
theorem mul_part {a b : Fm} (ta : Tells a) (tb : Tells b) : mulE a b (restF a) (restF b) = addI (addI (addI (addI 0 (slkM a.2.1 b.2.1) 1) (mulI (absI a.2.1) b.2.2.2 1) 1) (mulI (absI b.2.1) a.2.2.2 1) 1) (mulI (restF a) (restF b) 1) 1 := by
  unfold mulE
  rw [abs_fin ta.fm, abs_fin tb.fm]; rfl
theorem wd_rad {a : Fm} (h : Wf a) : Wd64 (radF a) := by
  rw [radF_eq]
  cases okF a with
  | false => exact ⟨9218868437227405312, rfl, by omega⟩
  | true =>
    rw [cond_true]
    have hup : ∀ {x y : Int}, Wd64 x → Wd64 y → Wd64 (upI [x, y]) := fun wx wy => wd_add (wd_add wd_0 wx 1) wy 1
    have hs : ∀ (l : List Tm) (s : Int), Wd64 s → (∀ t ∈ l, Wd64 t.c) → Wd64 (sumA l s) := by
      intro l
      induction l with
      | nil => intro s hs _; exact hs
      | cons t l ih =>
        intro s hs hl
        unfold sumA
        refine ih _ (hup hs ?_) fun u hu => hl u (List.mem_cons_of_mem _ hu)
        obtain ⟨C, hC, hC2⟩ := hl t (List.mem_cons_self ..)
        refine ⟨absF t.c.toNat, rfl, ?_⟩
        unfold absF
        have := bK_lt t.c.toNat
        rw [hC, Int.toNat_natCast] at *
        cases nanK (bK C) <;> simp only [cond_true, cond_false] <;> omega
    exact hup (hs _ _ wd_0 h.2.2) h.2.1
def rMulF_s (p : Rf × Rf) : Option Rf := bif okR p.1 && okR p.2 && Nat.ble (p.1.2.2.1.length + p.2.2.2.1.length) 500000000000 then some (ofF (mulFm (toF p.1) (toF p.2))) else none
theorem rMulF_ok (p : Rf × Rf) (y : Rf) (hg : (dc cRf (d1 cRf)).good p) (h : rMulF_s p = some y) : ∃ n, rMulF n p.1 p.2 = some y := by
  obtain ⟨x, z⟩ := p
  obtain ⟨hc, h2⟩ := bif_some h
  have := soi h2; subst this
  simp only [Bool.and_eq_true] at hc
  obtain ⟨⟨hx, hz⟩, hlen⟩ := hc
  have hlen := Nat.le_of_ble_eq_true hlen
  have gx : cRf.good x := hg.1
  have gz : cRf.good z := hg.2
  clear hg h h2
  simp only [] at hlen ⊢
  revert gx hlen
  refine onR (P := fun x => x.2.2.1.length + z.2.2.1.length ≤ 500000000000 → cRf.good x → ∃ n, rMulF n x z = some (ofF (mulFm (toF x) (toF z)))) (fun a _ hlen gx => ?_) hx
  revert gz hlen
  refine onR (P := fun z => cRf.good z → (ofF a).2.2.1.length + z.2.2.1.length ≤ 500000000000 → ∃ n, rMulF n (ofF a) z = some (ofF (mulFm (toF (ofF a)) (toF z)))) (fun b _ gz hlen => ?_) hz
  have wa := wf_good gx
  have wb := wf_good gz
  have hll : a.2.2.1.length + b.2.2.1.length ≤ 500000000000 := by
    have : (a.2.2.1.map Tm.id).length + (b.2.2.1.map Tm.id).length ≤ 500000000000 := hlen
    rwa [List.length_map, List.length_map] at this
  rw [to_of, to_of, mulFm_eq]
  unfold rMulF mulFm'
  rcases okF_cases a with ⟨h1, h2⟩ | ⟨h1, h2, h3, h4⟩ | ⟨h1, h2, h3⟩
  · refine ⟨0, obs (rIn_of a) (obs (rIn_of b) ?_)⟩
    rw [h1, h2, Bool.false_and]; rfl
  · refine ⟨0, obs (rIn_of a) (obs (rIn_of b) ?_)⟩
    rw [h1, h2, Bool.false_and, h4]; rfl
  · rcases okF_cases b with ⟨g1, g2⟩ | ⟨g1, g2, g3, g4⟩ | ⟨g1, g2, g3⟩
    · refine ⟨0, obs (rIn_of a) (obs (rIn_of b) ?_)⟩
      rw [h1, h2, g1, g2, Bool.true_and]
      show (bif a.1 then _ else _) = _
      rw [h3]; rfl
    · refine ⟨0, obs (rIn_of a) (obs (rIn_of b) ?_)⟩
      rw [h1, h2, g1, g2, Bool.true_and, g4]
      show (bif a.1 then _ else _) = _
      rw [h3]; rfl
    · have ta := tells h3 h2 wa.1 wa.2.1 wa.2.2
      have tb := tells g3 g2 wb.1 wb.2.1 wb.2.2
      have fa : (ofF a).1 = false := h3
      have fb : (ofF b).1 = false := g3
      have hids : rIds_s (ofF a, ofF b) = some (idsN (a.2.2.1.length + b.2.2.1.length) (a.2.2.1.map Tm.id) (b.2.2.1.map Tm.id)) := by
        unfold rIds_s
        simp only []
        have hl1 : (ofF a).2.2.1.length = a.2.2.1.length := List.length_map ..
        have hl2 : (ofF b).2.2.1.length = b.2.2.1.length := List.length_map ..
        rw [hl1, hl2, Nat.ble_eq_true_of_le (by omega), cond_true]; rfl
      have hIl := ids_len (a.2.2.1.length + b.2.2.1.length) (a.2.2.1.map Tm.id) (b.2.2.1.map Tm.id)
      have rra : rRad_s (ofF (a.1, (0, (a.2.2.1, a.2.2.2)))) = some (restF a) := rRad_of (a := (a.1, (0, (a.2.2.1, a.2.2.2)))) (by simp only []; omega)
      have rrb : rRad_s (ofF (b.1, (0, (b.2.2.1, b.2.2.2)))) = some (restF b) := rRad_of (a := (b.1, (0, (b.2.2.1, b.2.2.2)))) (by simp only []; omega)
      have hf : ∀ f : Int, finK (bK (Int.toNat f)) = fI f := fun _ => rfl
      have wra : Wd64 (restF a) := wd_rad (a := (a.1, (0, (a.2.2.1, a.2.2.2)))) ⟨wd_0, wa.2.1, wa.2.2⟩
      have wrb : Wd64 (restF b) := wd_rad (a := (b.1, (0, (b.2.2.1, b.2.2.2)))) ⟨wd_0, wb.2.1, wb.2.2⟩
      have hcl : Cle (mulE a b (restF a) (restF b)) := by
        rw [mul_part ta tb]
        have c1 := cle_add wd_0 (wd_slkM wa.1 wb.1) (by omega)
        have c2 := cle_add c1.1 (wd_mul (wd_abs a.2.1) wb.2.1 1) c1.2.1
        have c3 := cle_add c2.1 (wd_mul (wd_abs b.2.1) wa.2.1 1) c2.2.1
        exact cle_add c3.1 (wd_mul wra wrb 1) c3.2.1
      obtain ⟨m1, m2⟩ := merge_inv (f := mulD a.2.1 b.2.1) (g := mulR a.2.1 b.2.1) (n := a.2.2.1.length + b.2.2.1.length) (l := a.2.2.1) (m := b.2.2.1) (k := -1) (Nat.le_refl _) ta.rise tb.rise wa.2.2 wb.2.2 (fun e x y he wx wy => mul_DR he wa.1 wb.1 wx wy) hcl
      have hok := okMm_all (ma := a.2.1) (mb := b.2.1) (n := a.2.2.1.length + b.2.2.1.length) (l := a.2.2.1) (m := b.2.2.1) (k := -1) (Nat.le_refl _) ta.rise tb.rise
      obtain ⟨n, y, q, hy⟩ := rmul_loop [] [] false false 0 0 (mulI a.2.1 b.2.1 0) 0 0 0 a b (idsN (a.2.2.1.length + b.2.2.1.length) (a.2.2.1.map Tm.id) (b.2.2.1.map Tm.id)) (by omega) (idsN (a.2.2.1.length + b.2.2.1.length) (a.2.2.1.map Tm.id) (b.2.2.1.map Tm.id)) [] [] (mulE a b (restF a) (restF b)) rfl rfl
      refine ⟨n, obs (rIn_of a) (obs (rIn_of b) ?_)⟩
      rw [h1, h2, g1, g2, Bool.true_and, cond_true, cond_true, cond_true, fa, fb, cond_false, cond_false]
      refine obs hids ?_
      rw [h3] at rra
      rw [g3] at rrb
      refine obs rra (obs rrb ?_)
      rw [hf, hf]
      cases k1 : fI (restF a) with
      | false => rfl
      | true =>
      cases k2 : fI (restF b) with
      | false => rfl
      | true =>
      rw [Bool.not_true, cond_false, cond_false, Bool.true_and, Bool.true_and, hok]
      rw [fa, fb, mul_part ta tb] at q
      refine obs q ?_
      generalize hI : idsN (a.2.2.1.length + b.2.2.1.length) (a.2.2.1.map Tm.id) (b.2.2.1.map Tm.id) = I at *
      rcases hy with ⟨y1, rfl⟩ | ⟨y1, rfl⟩
      · rw [y1, cond_true]
        simp only [List.nil_append]
        have hgl := genR_len (mulR a.2.1 b.2.1) (atN a.2.2.1) (atN b.2.2.1) I (mulE a b (restF a) (restF b))
        generalize genR (mulR a.2.1 b.2.1) (atN a.2.2.1) (atN b.2.2.1) I (mulE a b (restF a) (restF b)) = G at *
        obtain ⟨cs, er⟩ := G
        simp only [] at hgl m1 m2 ⊢
        have hr := rDone_of (a := (false, (mulI a.2.1 b.2.1 0, (zipT I cs, er)))) (by
          have := List.length_map (f := Tm.id) (as := zipT I cs)
          rw [zip_id hgl.symm] at this
          simp only []; omega)
        have er1 : ofF (false, (mulI a.2.1 b.2.1 0, (zipT I cs, er))) = (false, (mulI a.2.1 b.2.1 0, (I, (cs, er)))) := by
          unfold ofF
          simp only []
          rw [zip_id hgl.symm, zip_c hgl.symm]
        rw [er1] at hr
        rw [show Nat.beq 0 0 = true from rfl, cond_true]
        refine obs (sub_full _ _ (by simp)) (obs (sub_full _ _ (by simp)) ?_)
        refine obs (obs (obs (obs (obs (obs (unviews_2 cs) rfl) rfl) rfl) rfl) hr) ?_
        rw [show mergeN (mulD a.2.1 b.2.1) (a.2.2.1.length + b.2.2.1.length) a.2.2.1 b.2.2.1 (mulE a b (restF a) (restF b)) = (zipT I cs, er) from Prod.ext m1 m2]; rfl
      · rw [y1, cond_false]; rfl
end
end Su
end
section
namespace Su
open Go Fly
set_option linter.unusedVariables false
noncomputable section
def lPro  (a : (Bool × (Int × ((List Su.Tm) × Int)))) (b : (Bool × (Int × ((List Su.Tm) × Int)))) : Option Bool :=
  (bif (decide ((40 < (((List.length a.2.2.1) : Nat) : Int)))) then
  some true
 else
  (bif (decide ((40 < (((List.length b.2.2.1) : Nat) : Int)))) then
  some true
 else
  ((Su.aMulF_s ((a.1, (a.2.1, (a.2.2.1, a.2.2.2))), (b.1, (b.2.1, (b.2.2.1, b.2.2.2)))))).bind fun x0 =>
  ((Su.lOf_s (a.1, (a.2.1, (a.2.2.1, a.2.2.2))))).bind fun x1 =>
  ((Su.lOf_s (b.1, (b.2.1, (b.2.2.1, b.2.2.2))))).bind fun x2 =>
  ((Su.rMulF_s ((x1.1, (x1.2.1, (x1.2.2.1, (x1.2.2.2.1, x1.2.2.2.2)))), (x2.1, (x2.2.1, (x2.2.2.1, (x2.2.2.2.1, x2.2.2.2.2))))))).bind fun x3 =>
  ((Su.lIs_s ((x0.1, (x0.2.1, (x0.2.2.1, x0.2.2.2))), (x3.1, (x3.2.1, (x3.2.2.1, (x3.2.2.2.1, x3.2.2.2.2))))))).bind fun x4 =>
  some x4))
theorem mul_len (a b : Fm) : (mulFm a b).2.2.1.length ≤ a.2.2.1.length + b.2.2.1.length := by
  rw [mulFm_eq]
  unfold mulFm'
  cases okF a && okF b with
  | false => exact Nat.zero_le _
  | true =>
    rw [cond_true]
    cases (fI (restF a) && fI (restF b)) && okMm a.2.1 b.2.1 (a.2.2.1.length + b.2.2.1.length) a.2.2.1 b.2.2.1 with
    | false => exact Nat.zero_le _
    | true => exact Nat.le_trans (done_len _) (mergeN_len _ _ _ _ _)
theorem rMulF_of {a b : Fm} (h : a.2.2.1.length + b.2.2.1.length ≤ 500000000000) : rMulF_s (ofF a, ofF b) = some (ofF (mulFm a b)) := by
  unfold rMulF_s
  simp only []
  have hl1 : (ofF a).2.2.1.length = a.2.2.1.length := List.length_map ..
  have hl2 : (ofF b).2.2.1.length = b.2.2.1.length := List.length_map ..
  rw [okR_of (by omega), okR_of (by omega), hl1, hl2, Nat.ble_eq_true_of_le h, to_of, to_of]
  rfl
def lPro_s (_ : Fm × Fm) : Option Bool := some true
theorem lPro_ok (p : Fm × Fm) (y : Bool) (hg : (dc cFrm (d1 cFrm)).good p) (h : lPro_s p = some y) : lPro p.1 p.2 = some y := by
  obtain ⟨a, b⟩ := p
  have := soi h; subst this
  unfold lPro
  simp only []
  by_cases ha : 40 < (a.2.2.1.length : Int)
  · rw [decide_eq_true ha]; rfl
  by_cases hb : 40 < (b.2.2.1.length : Int)
  · rw [decide_eq_true hb]; cases decide (40 < (a.2.2.1.length : Int)) <;> rfl
  rw [decide_eq_false ha, decide_eq_false hb, cond_false, cond_false]
  have s1 : aMulF_s (a, b) = some (mulFm a b) := by
    unfold aMulF_s
    simp only []
    rw [Nat.ble_eq_true_of_le (by omega), cond_true]
  have l1 := mul_len a b
  refine obs s1 (obs (lOf_of (a := a) (by omega)) (obs (lOf_of (a := b) (by omega)) (obs (rMulF_of (a := a) (b := b) (by omega)) (obs (lIs_of (a := mulFm a b) (by omega)) ?_))))
  rfl
end
end Su
end
