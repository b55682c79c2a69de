/-
  What functions of the program compute, in plain Lean, and that the evaluator finds it.
-/
import Derived.Test.YtnegfdebjikfiaaGreatSuSd
import Derived.Test.YtnegfdebjikfiaaGreatND08
import Derived.Test.YtnegfdebjikfiaaGreatNC08
import Derived.Test.YtnegfdebjikfiaaGreatNC14
set_option maxRecDepth 10000
section
namespace Su
open Go Fly
set_option linter.unusedVariables false
noncomputable section
def uAdd_c2 (a : Int) (b : Int) (mode : Int) :=
  fun x5016 x5017 =>
  bif (decide (((Su.bS (Int.toNat a)) = (Su.bS (Int.toNat b))))) then
  ((Su.bAdd_s (x5016, x5017))).bind fun x2 =>
  (bif (decide (((((Su.blen (Su.valB x2)) : Nat) : Int) = 0))) then
  (bif (decide (((Su.bS (Int.toNat a)) = (Su.bS (Int.toNat b))))) then
  some ((((Su.sgN (Su.bS (Int.toNat a))) : Nat) : Int), (0 : Int))
 else
  some ((((Su.sgN (decide ((mode = 2)))) : Nat) : Int), (0 : Int)))
 else
  ((Su.oRound_s ((Su.bS (Int.toNat a)), (x2, ((min (Su.spE (Su.bK (Int.toNat b))) (Su.spE (Su.bK (Int.toNat b)))), (false, mode)))))).bind fun x3 =>
  some (x3.1, x3.2))
 else
  (bif (decide ((0 ≤ (Su.cmpI (Su.valB x5016) (Su.valB x5017))))) then
  ((Su.bSub_s (x5016, (x5017, (Go.IntKind.wrap .i64 ((((List.length x5016) : Nat) : Int) + (((List.length x5017) : Nat) : Int))))))).bind fun x4 =>
  (bif (decide (((((Su.blen (Su.valB x4.1)) : Nat) : Int) = 0))) then
  (bif (decide (((Su.bS (Int.toNat a)) = (Su.bS (Int.toNat b))))) then
  some ((((Su.sgN (Su.bS (Int.toNat a))) : Nat) : Int), (0 : Int))
 else
  some ((((Su.sgN (decide ((mode = 2)))) : Nat) : Int), (0 : Int)))
 else
  ((Su.oRound_s ((Su.bS (Int.toNat a)), (x4.1, ((min (Su.spE (Su.bK (Int.toNat b))) (Su.spE (Su.bK (Int.toNat b)))), (false, mode)))))).bind fun x5 =>
  some (x5.1, x5.2))
 else
  ((Su.bSub_s (x5017, (x5016, (Go.IntKind.wrap .i64 ((((List.length x5016) : Nat) : Int) + (((List.length x5017) : Nat) : Int))))))).bind fun x6 =>
  (bif (decide (((((Su.blen (Su.valB x6.1)) : Nat) : Int) = 0))) then
  (bif (decide (((Su.bS (Int.toNat a)) = (Su.bS (Int.toNat b))))) then
  some ((((Su.sgN (Su.bS (Int.toNat a))) : Nat) : Int), (0 : Int))
 else
  some ((((Su.sgN (decide ((mode = 2)))) : Nat) : Int), (0 : Int)))
 else
  ((Su.oRound_s ((Su.bS (Int.toNat b)), (x6.1, ((min (Su.spE (Su.bK (Int.toNat b))) (Su.spE (Su.bK (Int.toNat b)))), (false, mode)))))).bind fun x7 =>
  some (x7.1, x7.2)))
def uAdd_c1 (a : Int) (b : Int) (mode : Int) :=
  bif (decide (((((Su.clsK (Su.bK (Int.toNat a))) : Nat) : Int) = 3))) then
  some (a, (0 : Int))
 else
  (bif (decide (((((Su.clsK (Su.bK (Int.toNat b))) : Nat) : Int) = 3))) then
  some (b, (0 : Int))
 else
  (bif (decide (((((Su.spM (Su.bK (Int.toNat a))) : Nat) : Int) = 0))) then
  (bif (decide (((((Su.spM (Su.bK (Int.toNat b))) : Nat) : Int) = 0))) then
  ((Su.bShl_s ((Su.numB (((Su.spM (Su.bK (Int.toNat a))) : Nat) : Int)), (Go.IntKind.wrap .i64 ((Su.spE (Su.bK (Int.toNat b))) - (min (Su.spE (Su.bK (Int.toNat b))) (Su.spE (Su.bK (Int.toNat b))))))))).bind fun x0 =>
  ((Su.bShl_s ((Su.numB (((Su.spM (Su.bK (Int.toNat b))) : Nat) : Int)), (Go.IntKind.wrap .i64 ((Su.spE (Su.bK (Int.toNat b))) - (min (Su.spE (Su.bK (Int.toNat b))) (Su.spE (Su.bK (Int.toNat b))))))))).bind fun x1 =>
  (uAdd_c2 a b mode x0 x1)
 else
  ((Su.bShl_s ((Su.numB (((Su.spM (Su.bK (Int.toNat a))) : Nat) : Int)), (Go.IntKind.wrap .i64 ((Su.spE (Su.bK (Int.toNat b))) - (min (Su.spE (Su.bK (Int.toNat b))) (Su.spE (Su.bK (Int.toNat b))))))))).bind fun x8 =>
  ((Su.bShl_s ((Su.numB (((Su.spM (Su.bK (Int.toNat b))) : Nat) : Int)), (Go.IntKind.wrap .i64 ((Su.spE (Su.bK (Int.toNat b))) - (min (Su.spE (Su.bK (Int.toNat b))) (Su.spE (Su.bK (Int.toNat b))))))))).bind fun x9 =>
  (uAdd_c2 a b mode x8 x9))
 else
  (bif (decide (((((Su.spM (Su.bK (Int.toNat b))) : Nat) : Int) = 0))) then
  ((Su.bShl_s ((Su.numB (((Su.spM (Su.bK (Int.toNat a))) : Nat) : Int)), (Go.IntKind.wrap .i64 ((Su.spE (Su.bK (Int.toNat a))) - (min (Su.spE (Su.bK (Int.toNat a))) (Su.spE (Su.bK (Int.toNat a))))))))).bind fun x16 =>
  ((Su.bShl_s ((Su.numB (((Su.spM (Su.bK (Int.toNat b))) : Nat) : Int)), (Go.IntKind.wrap .i64 ((Su.spE (Su.bK (Int.toNat a))) - (min (Su.spE (Su.bK (Int.toNat a))) (Su.spE (Su.bK (Int.toNat a))))))))).bind fun x17 =>
  (bif (decide (((Su.bS (Int.toNat a)) = (Su.bS (Int.toNat b))))) then
  ((Su.bAdd_s (x16, x17))).bind fun x18 =>
  (bif (decide (((((Su.blen (Su.valB x18)) : Nat) : Int) = 0))) then
  (bif (decide (((Su.bS (Int.toNat a)) = (Su.bS (Int.toNat b))))) then
  some ((((Su.sgN (Su.bS (Int.toNat a))) : Nat) : Int), (0 : Int))
 else
  some ((((Su.sgN (decide ((mode = 2)))) : Nat) : Int), (0 : Int)))
 else
  ((Su.oRound_s ((Su.bS (Int.toNat a)), (x18, ((min (Su.spE (Su.bK (Int.toNat a))) (Su.spE (Su.bK (Int.toNat a)))), (false, mode)))))).bind fun x19 =>
  some (x19.1, x19.2))
 else
  (bif (decide ((0 ≤ (Su.cmpI (Su.valB x16) (Su.valB x17))))) then
  ((Su.bSub_s (x16, (x17, (Go.IntKind.wrap .i64 ((((List.length x16) : Nat) : Int) + (((List.length x17) : Nat) : Int))))))).bind fun x20 =>
  (bif (decide (((((Su.blen (Su.valB x20.1)) : Nat) : Int) = 0))) then
  (bif (decide (((Su.bS (Int.toNat a)) = (Su.bS (Int.toNat b))))) then
  some ((((Su.sgN (Su.bS (Int.toNat a))) : Nat) : Int), (0 : Int))
 else
  some ((((Su.sgN (decide ((mode = 2)))) : Nat) : Int), (0 : Int)))
 else
  ((Su.oRound_s ((Su.bS (Int.toNat a)), (x20.1, ((min (Su.spE (Su.bK (Int.toNat a))) (Su.spE (Su.bK (Int.toNat a)))), (false, mode)))))).bind fun x21 =>
  some (x21.1, x21.2))
 else
  ((Su.bSub_s (x17, (x16, (Go.IntKind.wrap .i64 ((((List.length x16) : Nat) : Int) + (((List.length x17) : Nat) : Int))))))).bind fun x22 =>
  (bif (decide (((((Su.blen (Su.valB x22.1)) : Nat) : Int) = 0))) then
  (bif (decide (((Su.bS (Int.toNat a)) = (Su.bS (Int.toNat b))))) then
  some ((((Su.sgN (Su.bS (Int.toNat a))) : Nat) : Int), (0 : Int))
 else
  some ((((Su.sgN (decide ((mode = 2)))) : Nat) : Int), (0 : Int)))
 else
  ((Su.oRound_s ((Su.bS (Int.toNat b)), (x22.1, ((min (Su.spE (Su.bK (Int.toNat a))) (Su.spE (Su.bK (Int.toNat a)))), (false, mode)))))).bind fun x23 =>
  some (x23.1, x23.2))))
 else
  ((Su.bShl_s ((Su.numB (((Su.spM (Su.bK (Int.toNat a))) : Nat) : Int)), (Go.IntKind.wrap .i64 ((Su.spE (Su.bK (Int.toNat a))) - (min (Su.spE (Su.bK (Int.toNat a))) (Su.spE (Su.bK (Int.toNat b))))))))).bind fun x24 =>
  ((Su.bShl_s ((Su.numB (((Su.spM (Su.bK (Int.toNat b))) : Nat) : Int)), (Go.IntKind.wrap .i64 ((Su.spE (Su.bK (Int.toNat b))) - (min (Su.spE (Su.bK (Int.toNat a))) (Su.spE (Su.bK (Int.toNat b))))))))).bind fun x25 =>
  (bif (decide (((Su.bS (Int.toNat a)) = (Su.bS (Int.toNat b))))) then
  ((Su.bAdd_s (x24, x25))).bind fun x26 =>
  (bif (decide (((((Su.blen (Su.valB x26)) : Nat) : Int) = 0))) then
  (bif (decide (((Su.bS (Int.toNat a)) = (Su.bS (Int.toNat b))))) then
  some ((((Su.sgN (Su.bS (Int.toNat a))) : Nat) : Int), (0 : Int))
 else
  some ((((Su.sgN (decide ((mode = 2)))) : Nat) : Int), (0 : Int)))
 else
  ((Su.oRound_s ((Su.bS (Int.toNat a)), (x26, ((min (Su.spE (Su.bK (Int.toNat a))) (Su.spE (Su.bK (Int.toNat b)))), (false, mode)))))).bind fun x27 =>
  some (x27.1, x27.2))
 else
  (bif (decide ((0 ≤ (Su.cmpI (Su.valB x24) (Su.valB x25))))) then
  ((Su.bSub_s (x24, (x25, (Go.IntKind.wrap .i64 ((((List.length x24) : Nat) : Int) + (((List.length x25) : Nat) : Int))))))).bind fun x28 =>
  (bif (decide (((((Su.blen (Su.valB x28.1)) : Nat) : Int) = 0))) then
  (bif (decide (((Su.bS (Int.toNat a)) = (Su.bS (Int.toNat b))))) then
  some ((((Su.sgN (Su.bS (Int.toNat a))) : Nat) : Int), (0 : Int))
 else
  some ((((Su.sgN (decide ((mode = 2)))) : Nat) : Int), (0 : Int)))
 else
  ((Su.oRound_s ((Su.bS (Int.toNat a)), (x28.1, ((min (Su.spE (Su.bK (Int.toNat a))) (Su.spE (Su.bK (Int.toNat b)))), (false, mode)))))).bind fun x29 =>
  some (x29.1, x29.2))
 else
  ((Su.bSub_s (x25, (x24, (Go.IntKind.wrap .i64 ((((List.length x24) : Nat) : Int) + (((List.length x25) : Nat) : Int))))))).bind fun x30 =>
  (bif (decide (((((Su.blen (Su.valB x30.1)) : Nat) : Int) = 0))) then
  (bif (decide (((Su.bS (Int.toNat a)) = (Su.bS (Int.toNat b))))) then
  some ((((Su.sgN (Su.bS (Int.toNat a))) : Nat) : Int), (0 : Int))
 else
  some ((((Su.sgN (decide ((mode = 2)))) : Nat) : Int), (0 : Int)))
 else
  ((Su.oRound_s ((Su.bS (Int.toNat b)), (x30.1, ((min (Su.spE (Su.bK (Int.toNat a))) (Su.spE (Su.bK (Int.toNat b)))), (false, mode)))))).bind fun x31 =>
  some (x31.1, x31.2)))))))
def uAdd  (a : Int) (b : Int) (mode : Int) : Option (Int × Int) :=
  (bif (decide (((((Su.clsK (Su.bK (Int.toNat a))) : Nat) : Int) = 4))) then
  some ((9221120237041090560 : Int), (0 : Int))
 else
  (bif (decide (((((Su.clsK (Su.bK (Int.toNat b))) : Nat) : Int) = 4))) then
  some ((9221120237041090560 : Int), (0 : Int))
 else
  (bif (decide (((((Su.clsK (Su.bK (Int.toNat a))) : Nat) : Int) = 3))) then
  (bif (decide (((((Su.clsK (Su.bK (Int.toNat b))) : Nat) : Int) = 3))) then
  (bif (!(decide (((Su.bS (Int.toNat a)) = (Su.bS (Int.toNat b)))))) then
  some ((9221120237041090560 : Int), (16 : Int))
 else
  (uAdd_c1 a b mode))
 else
  (uAdd_c1 a b mode))
 else
  (uAdd_c1 a b mode))))
def addV (na nb : Bool) (mode : Int) (P Q E : Nat) : Nat :=
  if na = nb then (if P + Q = 0 then sgN na else RN na mode (P + Q) E false)
  else if P = Q then sgN (decide (mode = 2)) else if Q < P then RN na mode (P - Q) E false else RN nb mode (Q - P) E false
theorem addV_comm (na nb : Bool) (mode : Int) (P Q E : Nat) : addV na nb mode P Q E = addV nb na mode Q P E := by
  by_cases h : na = nb
  · subst h; unfold addV; rw [if_pos rfl, if_pos rfl, Nat.add_comm]
  · have h' : ¬ nb = na := fun e => h e.symm
    unfold addV
    rw [if_neg h, if_neg h']
    by_cases h1 : P = Q
    · rw [if_pos h1, if_pos h1.symm]
    · have h1' : ¬ Q = P := fun e => h1 e.symm
      rw [if_neg h1, if_neg h1']
      by_cases h2 : Q < P
      · have h2' : ¬ P < Q := by omega
        rw [if_pos h2, if_neg h2']
      · have h2' : P < Q := by omega
        rw [if_neg h2, if_pos h2']
theorem addV_X {na nb : Bool} {mode : Int} {X Y D : Nat} {ey : Int} (hX : 1 ≤ X) (hle : Y ≤ 2 ^ D * X) : addV na nb mode (2 ^ D * X) Y (ey + 6000).toNat = addX na nb mode X Y D ey := by
  unfold addV addX
  have hD := Nat.mul_le_mul (Nat.two_pow_pos D) hX
  by_cases h : na = nb
  · rw [if_pos h, if_pos h, if_neg (by omega)]
  · rw [if_neg h, if_neg h]
    by_cases h1 : 2 ^ D * X = Y
    · rw [if_pos h1, if_pos h1]
    · rw [if_neg h1, if_neg h1, if_pos (by omega)]
theorem kM_le_pow {i j : Nat} (hi : i ≤ 9218868437227405311) (hj : j ≤ 9218868437227405311) (h : kE j < kE i ∨ kE j = kE i ∧ kM j ≤ kM i) : kM j ≤ 2 ^ (kE i - kE j) * kM i := by
  obtain ⟨a1, a2, a3, a4⟩ := kM_facts hi
  obtain ⟨b1, b2, b3, b4⟩ := kM_facts hj
  rcases h with h | ⟨h1, h2⟩
  · have hp : 2 ^ 1 ≤ 2 ^ (kE i - kE j) := Nat.pow_le_pow_right (by omega) (by omega)
    have h4 := a4 (by omega)
    have := Nat.mul_le_mul hp h4
    omega
  · rw [h1, Nat.sub_self, Nat.pow_zero, Nat.one_mul]; exact h2
theorem addF_addV {a b : Nat} {mode : Int} (fa : bK a ≤ 9218868437227405311) (fb : bK b ≤ 9218868437227405311) (za : bK a ≠ 0) (zb : bK b ≠ 0) :
    addF a b mode = addV (bS a) (bS b) mode (2 ^ (kE (bK a) - kE (bK b)) * kM (bK a)) (2 ^ (kE (bK b) - kE (bK a)) * kM (bK b)) (min (kE (bK a)) (kE (bK b)) + 4926) := by
  have n1 : nanK (bK a) = false := nanK_not.2 (by omega)
  have n2 : nanK (bK b) = false := nanK_not.2 (by omega)
  have i1 : infK (bK a) = false := by unfold infK; rw [beq_dec]; exact decide_eq_false (by omega)
  have i2 : infK (bK b) = false := by unfold infK; rw [beq_dec]; exact decide_eq_false (by omega)
  have k1 := (kM_facts fa).2.1 za
  have k2 := (kM_facts fb).2.1 zb
  unfold addF
  rw [n1, n2, i1, i2, beq0 za, beq0 zb]
  simp only [cond_false, Bool.false_and]
  unfold swapF
  by_cases h : kE (bK a) < kE (bK b) ∨ kE (bK a) = kE (bK b) ∧ kM (bK a) < kM (bK b)
  · have hs : (decide (kE (bK a) < kE (bK b)) || (decide (kE (bK a) = kE (bK b)) && decide (kM (bK a) < kM (bK b)))) = true := by
      rw [← Bool.decide_and, ← Bool.decide_or]; exact decide_eq_true h
    rw [hs, cond_true, addV_comm]
    have hl := kM_le_pow fb fa (by omega)
    have e1 : kE (bK a) - kE (bK b) = 0 := by omega
    have e2 : min (kE (bK a)) (kE (bK b)) + 4926 = (((kE (bK a) : Int) - 1074) + 6000).toNat := by omega
    rw [e1, Nat.pow_zero, Nat.one_mul, e2, addV_X k2 hl]
    rfl
  · have hs : (decide (kE (bK a) < kE (bK b)) || (decide (kE (bK a) = kE (bK b)) && decide (kM (bK a) < kM (bK b)))) = false := by
      rw [← Bool.decide_and, ← Bool.decide_or]; exact decide_eq_false h
    rw [hs, cond_false]
    have hl := kM_le_pow fa fb (by omega)
    have e1 : kE (bK b) - kE (bK a) = 0 := by omega
    have e2 : min (kE (bK a)) (kE (bK b)) + 4926 = (((kE (bK b) : Int) - 1074) + 6000).toNat := by omega
    rw [e1, Nat.pow_zero, Nat.one_mul, e2, addV_X k1 hl]
    rfl
theorem addV_zl {na : Bool} {b : Nat} {mode : Int} (hb : b < 18446744073709551616) (fb : bK b ≤ 9218868437227405311) (zb : bK b ≠ 0) : addV na (bS b) mode 0 (kM (bK b)) (kE (bK b) + 4926) = b := by
  have k2 := (kM_facts fb).2.1 zb
  have hs := RN_self (neg := bS b) (mode := mode) (k := bK b) (by unfold topN; exact fb)
  rw [SH_eq, ← f_split hb] at hs
  unfold addV
  by_cases h : na = bS b
  · rw [if_pos h, if_neg (by omega), h, Nat.zero_add]; exact hs
  · rw [if_neg h, if_neg (by omega), if_neg (by omega), Nat.sub_zero]; exact hs
theorem cmp_ge {A B : Nat} : decide (0 ≤ cmpI A B) = decide (B ≤ A) := by
  refine decide_eq_decide.2 ?_
  unfold cmpI
  by_cases h1 : A < B
  · rw [if_pos h1]; omega
  · rw [if_neg h1]
    by_cases h2 : A = B
    · rw [if_pos h2]; omega
    · rw [if_neg h2]; omega
theorem blen_0 (n : Nat) : decide (((blen n : Nat) : Int) = 0) = decide (n = 0) := by
  refine decide_eq_decide.2 ⟨fun h => ?_, fun h => by subst h; rw [blen_zero]; rfl⟩
  refine Classical.byContradiction fun h0 => ?_
  have := blen_pos h0; omega
theorem bsub_some {p q : List Bool} (hp : p.length ≤ 100000) (hq : q.length ≤ 100000) (h : valB q ≤ valB p) : bSub_s (p, (q, IntKind.i64.wrap ((p.length : Int) + (q.length : Int)))) = some (bitsB (p.length + q.length) (valB p - valB q), false) := by
  unfold bSub_s
  simp only []
  rw [w64 (by omega) (by omega), show ((p.length : Int) + (q.length : Int)).toNat = p.length + q.length by omega, decide_eq_true h, Nat.ble_eq_true_of_le (by omega), Nat.ble_eq_true_of_le (by omega)]
  rfl
theorem sub_val {p q : List Bool} : valB (bitsB (p.length + q.length) (valB p - valB q)) = valB p - valB q := by
  rw [bitsB_val]
  refine Nat.mod_eq_of_lt ?_
  have h1 := valB_lt' (a := p) (n := p.length + q.length) (by omega)
  omega
theorem round_some {neg : Bool} {mode low : Int} {m : List Bool} (hm : m.length ≤ 1000000) (h1 : -5000 ≤ low) (h2 : low ≤ 5000) : ∃ fl, oRound_s (neg, (m, (low, (false, mode)))) = some (((RN neg mode (valB m) (low + 6000).toNat false : Nat) : Int), fl) := by
  unfold oRound_s
  simp only []
  rw [decide_eq_true (show m.length ≤ 1000000000 by omega), cond_true, rnd_eq, Bool.false_and, show min (max low (-5000)) 5000 = low by omega]
  exact ⟨_, rfl⟩
def tlU (na nb : Bool) (mode low : Int) (x0 x1 : List Bool) : Option (Int × Int) :=
  bif decide (na = nb) then
    (bAdd_s (x0, x1)).bind fun x2 =>
    bif decide (((blen (valB x2) : Nat) : Int) = 0) then (bif decide (na = nb) then some (((sgN na : Nat) : Int), (0 : Int)) else some (((sgN (decide (mode = 2)) : Nat) : Int), (0 : Int)))
    else (oRound_s (na, (x2, (low, (false, mode))))).bind fun x3 => some (x3.1, x3.2)
  else bif decide (0 ≤ cmpI (valB x0) (valB x1)) then
    (bSub_s (x0, (x1, IntKind.i64.wrap ((x0.length : Int) + (x1.length : Int))))).bind fun x4 =>
    bif decide (((blen (valB x4.1) : Nat) : Int) = 0) then (bif decide (na = nb) then some (((sgN na : Nat) : Int), (0 : Int)) else some (((sgN (decide (mode = 2)) : Nat) : Int), (0 : Int)))
    else (oRound_s (na, (x4.1, (low, (false, mode))))).bind fun x5 => some (x5.1, x5.2)
  else
    (bSub_s (x1, (x0, IntKind.i64.wrap ((x0.length : Int) + (x1.length : Int))))).bind fun x6 =>
    bif decide (((blen (valB x6.1) : Nat) : Int) = 0) then (bif decide (na = nb) then some (((sgN na : Nat) : Int), (0 : Int)) else some (((sgN (decide (mode = 2)) : Nat) : Int), (0 : Int)))
    else (oRound_s (nb, (x6.1, (low, (false, mode))))).bind fun x7 => some (x7.1, x7.2)
theorem tlU_val {na nb : Bool} {mode low : Int} {p q : List Bool} (hp : p.length ≤ 100000) (hq : q.length ≤ 100000) (h1 : -5000 ≤ low) (h2 : low ≤ 5000) :
    ∃ fl, tlU na nb mode low p q = some (((addV na nb mode (valB p) (valB q) (low + 6000).toNat : Nat) : Int), fl) := by
  unfold tlU addV
  by_cases hs : na = nb
  · have hl := addB_len p q
    rw [decide_eq_true hs, cond_true, if_pos hs, add_some (by omega), Option.bind_some, blen_0, addB_val]
    by_cases h0 : valB p + valB q = 0
    · rw [decide_eq_true h0, cond_true, if_pos h0]; exact ⟨_, rfl⟩
    · rw [decide_eq_false h0, cond_false, if_neg h0]
      obtain ⟨fl, e⟩ := round_some (neg := na) (mode := mode) (m := addB p q) (by omega) h1 h2
      rw [e, addB_val]; exact ⟨fl, rfl⟩
  · rw [decide_eq_false hs, cond_false, if_neg hs, cmp_ge]
    by_cases hle : valB q ≤ valB p
    · rw [decide_eq_true hle, cond_true, bsub_some hp hq hle, Option.bind_some]
      simp only [sub_val, blen_0]
      by_cases h0 : valB p = valB q
      · rw [decide_eq_true (show valB p - valB q = 0 by omega), cond_true, cond_false, if_pos h0]; exact ⟨_, rfl⟩
      · rw [decide_eq_false (show ¬ valB p - valB q = 0 by omega), cond_false, if_neg h0, if_pos (by omega)]
        obtain ⟨fl, e⟩ := round_some (neg := na) (mode := mode) (m := bitsB (p.length + q.length) (valB p - valB q)) (by rw [bitsB_len]; omega) h1 h2
        rw [e, sub_val]; exact ⟨fl, rfl⟩
    · rw [decide_eq_false hle, cond_false, Int.add_comm (p.length : Int), bsub_some hq hp (by omega), Option.bind_some]
      simp only [sub_val, blen_0]
      rw [decide_eq_false (show ¬ valB q - valB p = 0 by omega), cond_false, if_neg (by omega), if_neg (by omega)]
      obtain ⟨fl, e⟩ := round_some (neg := nb) (mode := mode) (m := bitsB (q.length + p.length) (valB q - valB p)) (by rw [bitsB_len]; omega) h1 h2
      rw [e, sub_val]; exact ⟨fl, rfl⟩
theorem leafU {na nb : Bool} {mode e f : Int} {j k : Nat} (hj : j ≤ 9218868437227405311) (hk : k ≤ 9218868437227405311) (e1 : -1074 ≤ e) (e2 : e ≤ 971) (f1 : -1074 ≤ f) (f2 : f ≤ 971) :
    ∃ fl, ((bShl_s (numB ((spM j : Nat) : Int), IntKind.i64.wrap (e - min e f))).bind fun x0 => (bShl_s (numB ((spM k : Nat) : Int), IntKind.i64.wrap (f - min e f))).bind fun x1 => tlU na nb mode (min e f) x0 x1) =
      some (((addV na nb mode (2 ^ (e - min e f).toNat * spM j) (2 ^ (f - min e f).toNat * spM k) (min e f + 6000).toNat : Nat) : Int), fl) := by
  have l1 := numB_len53 hj
  have l2 := numB_len53 hk
  have v1 : valB (numB ((spM j : Nat) : Int)) = spM j := by rw [numB_val, Int.toNat_natCast]
  have v2 : valB (numB ((spM k : Nat) : Int)) = spM k := by rw [numB_val, Int.toNat_natCast]
  have w1 : (e - min e f).toNat ≤ 3000 := by omega
  have w2 : (f - min e f).toNat ≤ 3000 := by omega
  rw [w64 (by omega) (by omega), w64 (by omega) (by omega), shl_some (by omega), Option.bind_some, shl_some (by omega), Option.bind_some]
  have := tlU_val (na := na) (nb := nb) (mode := mode) (low := min e f) (p := List.replicate (e - min e f).toNat false ++ numB ((spM j : Nat) : Int)) (q := List.replicate (f - min e f).toNat false ++ numB ((spM k : Nat) : Int))
    (by rw [List.length_append, List.length_replicate]; omega) (by rw [List.length_append, List.length_replicate]; omega) (by omega) (by omega)
  rw [valB_shl, valB_shl, v1, v2] at this
  exact this
theorem spE_rng {k : Nat} (hk : k ≤ 9218868437227405311) : -1074 ≤ spE k ∧ spE k ≤ 971 := by
  by_cases h0 : k = 0
  · subst h0; decide
  · rw [spE_fin hk h0]
    have := (kM_facts hk).2.2.1
    omega
theorem addF_fin_cases {a b : Nat} {mode : Int} (ha : a < 18446744073709551616) (hb : b < 18446744073709551616) (fa : bK a ≤ 9218868437227405311) (fb : bK b ≤ 9218868437227405311) :
    (Nat.beq (bK a) 0 = true → Nat.beq (bK b) 0 = true → ∀ E, addV (bS a) (bS b) mode 0 0 E = addF a b mode) ∧ (Nat.beq (bK a) 0 = true → Nat.beq (bK b) 0 = false → addF a b mode = b) ∧ (Nat.beq (bK a) 0 = false → Nat.beq (bK b) 0 = true → addF a b mode = a) := by
  have n1 : nanK (bK a) = false := nanK_not.2 (by omega)
  have n2 : nanK (bK b) = false := nanK_not.2 (by omega)
  have i1 : infK (bK a) = false := by unfold infK; rw [beq_dec]; exact decide_eq_false (by omega)
  have i2 : infK (bK b) = false := by unfold infK; rw [beq_dec]; exact decide_eq_false (by omega)
  unfold addF
  rw [n1, n2, i1, i2]
  simp only [cond_false, Bool.false_and]
  refine ⟨fun z1 z2 E => ?_, fun z1 z2 => ?_, fun z1 z2 => ?_⟩
  · rw [z1, z2]
    unfold addV
    by_cases h : bS a = bS b
    · rw [decide_eq_true h, if_pos h, if_pos rfl]
      have := f_split ha
      have := Nat.eq_of_beq_eq_true z1
      simp only [Bool.and_self, cond_true]; omega
    · rw [decide_eq_false h, if_neg h, if_pos rfl]; rfl
  · rw [z1, z2]; rfl
  · rw [z1, z2]; rfl
theorem spM_0 {k : Nat} (h : Nat.beq k 0 = true) : spM k = 0 := by rw [Nat.eq_of_beq_eq_true h]; rfl
theorem uAdd_val {a b : Nat} (ha : a < 18446744073709551616) (hb : b < 18446744073709551616) (mode : Int) : ∃ fl, uAdd (a : Int) (b : Int) mode = some ((addF a b mode : Int), fl) := by
  have inf_e : ∀ k : Nat, Nat.beq k 9218868437227405312 = infK k := fun k => rfl
  have q2 : ∀ {k : Nat}, k ≤ 9218868437227405311 → decide (((spM k : Nat) : Int) = 0) = Nat.beq k 0 := fun {k} hk => by
    rw [spM_fin hk, show (0 : Int) = ((0 : Nat) : Int) from rfl, nat_eq, beq_dec]
    by_cases h : k = 0
    · rw [decide_eq_true h, decide_eq_true (kM_zero.2 h)]
    · rw [decide_eq_false h, decide_eq_false (fun e => h (kM_zero.1 e))]
  unfold uAdd uAdd_c1 uAdd_c2
  simp only [Int.toNat_natCast, cls_nan, cls_inf, inf_e]
  by_cases hfin : bK a ≤ 9218868437227405311 ∧ bK b ≤ 9218868437227405311
  · obtain ⟨fa, fb⟩ := hfin
    have n1 : nanK (bK a) = false := nanK_not.2 (by omega)
    have n2 : nanK (bK b) = false := nanK_not.2 (by omega)
    have i1 : infK (bK a) = false := by unfold infK; rw [beq_dec]; exact decide_eq_false (by omega)
    have i2 : infK (bK b) = false := by unfold infK; rw [beq_dec]; exact decide_eq_false (by omega)
    obtain ⟨c1, c2, c3⟩ := addF_fin_cases (mode := mode) ha hb fa fb
    obtain ⟨r1, r2⟩ := spE_rng fa
    obtain ⟨r3, r4⟩ := spE_rng fb
    simp only [n1, n2, i1, i2, cond_false, q2 fa, q2 fb]
    cases z1 : Nat.beq (bK a) 0 with
    | true =>
      cases z2 : Nat.beq (bK b) 0 with
      | true =>
        simp only [cond_true]
        have h := leafU (na := bS a) (nb := bS b) (mode := mode) (e := spE (bK b)) (f := spE (bK b)) fa fb r3 r4 r3 r4
        rw [spM_0 z1, spM_0 z2, Nat.mul_zero, c1 z1 z2] at h
        rw [spM_0 z1, spM_0 z2]
        exact h
      | false =>
        simp only [cond_true, cond_false]
        have h := leafU (na := bS a) (nb := bS b) (mode := mode) (e := spE (bK b)) (f := spE (bK b)) fa fb r3 r4 r3 r4
        have zb : bK b ≠ 0 := fun e => by rw [e] at z2; simp at z2
        have e1 : (spE (bK b) - min (spE (bK b)) (spE (bK b))).toNat = 0 := by omega
        have e2 : (min (spE (bK b)) (spE (bK b)) + 6000).toNat = kE (bK b) + 4926 := by rw [spE_fin fb zb]; omega
        rw [e1, e2, spM_0 z1, Nat.mul_zero, Nat.pow_zero, Nat.one_mul, spM_fin fb, addV_zl hb fb zb] at h
        rw [spM_0 z1, c2 z1 z2, spM_fin fb]
        exact h
    | false =>
      have za : bK a ≠ 0 := fun e => by rw [e] at z1; simp at z1
      cases z2 : Nat.beq (bK b) 0 with
      | true =>
        simp only [cond_true, cond_false]
        have h := leafU (na := bS a) (nb := bS b) (mode := mode) (e := spE (bK a)) (f := spE (bK a)) fa fb r1 r2 r1 r2
        have e1 : (spE (bK a) - min (spE (bK a)) (spE (bK a))).toNat = 0 := by omega
        have e2 : (min (spE (bK a)) (spE (bK a)) + 6000).toNat = kE (bK a) + 4926 := by rw [spE_fin fa za]; omega
        rw [e1, e2, spM_0 z2, Nat.mul_zero, Nat.pow_zero, Nat.one_mul, spM_fin fa, addV_comm, addV_zl ha fa za] at h
        rw [spM_0 z2, c3 z1 z2, spM_fin fa]
        exact h
      | false =>
        have zb : bK b ≠ 0 := fun e => by rw [e] at z2; simp at z2
        simp only [cond_false]
        have h := leafU (na := bS a) (nb := bS b) (mode := mode) (e := spE (bK a)) (f := spE (bK b)) fa fb r1 r2 r3 r4
        have e1 : (spE (bK a) - min (spE (bK a)) (spE (bK b))).toNat = kE (bK a) - kE (bK b) := by rw [spE_fin fa za, spE_fin fb zb]; omega
        have e2 : (spE (bK b) - min (spE (bK a)) (spE (bK b))).toNat = kE (bK b) - kE (bK a) := by rw [spE_fin fa za, spE_fin fb zb]; omega
        have e3 : (min (spE (bK a)) (spE (bK b)) + 6000).toNat = min (kE (bK a)) (kE (bK b)) + 4926 := by rw [spE_fin fa za, spE_fin fb zb]; omega
        rw [addF_addV fa fb za zb]
        rw [e1, e2, e3] at h
        rw [spM_fin fa, spM_fin fb] at h ⊢
        exact h
  · unfold addF
    cases h1 : nanK (bK a) with
    | true => exact ⟨_, rfl⟩
    | false =>
    cases h2 : nanK (bK b) with
    | true => exact ⟨_, rfl⟩
    | false =>
    have h1' := nanK_not.1 h1
    have h2' := nanK_not.1 h2
    cases h3 : infK (bK a) with
    | true =>
      cases h4 : infK (bK b) with
      | true =>
        cases decide (bS a = bS b) with
        | true => exact ⟨_, rfl⟩
        | false => exact ⟨_, rfl⟩
      | false => exact ⟨_, rfl⟩
    | false =>
    cases h4 : infK (bK b) with
    | true => exact ⟨_, rfl⟩
    | false =>
      have i3 : bK a ≠ 9218868437227405312 := fun e => by unfold infK at h3; rw [e] at h3; simp at h3
      have i4 : bK b ≠ 9218868437227405312 := fun e => by unfold infK at h4; rw [e] at h4; simp at h4
      exact absurd ⟨by omega, by omega⟩ hfin
end
end Su
end
section
namespace Su
open Go Fly
theorem bK_sg {b : Bool} {k : Nat} (h : k < 9223372036854775808) : bK (sgN b + k) = k ∧ bS (sgN b + k) = b := by
  unfold bK sgN
  cases b with
  | true => rw [cond_true]; exact ⟨by omega, bS_iff.2 (by omega)⟩
  | false => rw [cond_false]; exact ⟨by omega, bS_not.2 (by omega)⟩
end Su
end
