/-
  Bits and rounding, in plain Lean. No condition.
-/
import Derived.Test.YtnegfdebjikfiaaGreatNC19
import Derived.Test.YtnegfdebjikfiaaGreatSuSd
set_option maxRecDepth 10000
section
namespace Su
open Go Fly
theorem bitsB_succ : ∀ (k n : Nat), bitsB (k + 1) n = bitsB k n ++ [n / 2 ^ k % 2 == 1]
  | 0, n => by simp [bitsB]
  | k + 1, n => by
    show (n % 2 == 1) :: bitsB (k + 1) (n / 2) = ((n % 2 == 1) :: bitsB k (n / 2)) ++ _
    rw [bitsB_succ k (n / 2), Nat.div_div_eq_div_mul, ← Nat.pow_succ']; rfl
theorem getB : ∀ (a : List Bool) (i : Nat), (a[i]?).getD false = (valB a / 2 ^ i % 2 == 1)
  | [], i => by simp [valB]
  | x :: a, 0 => by
    have h : (x.toNat + 2 * valB a) / 2 ^ 0 % 2 = x.toNat := by
      have hx : x.toNat ≤ 1 := by cases x <;> decide
      rw [Nat.pow_zero, Nat.div_one]; omega
    simp only [List.getElem?_cons_zero, Option.getD_some, valB, h]
    cases x <;> rfl
  | x :: a, i + 1 => by
    have h : (x.toNat + 2 * valB a) / 2 ^ (i + 1) = valB a / 2 ^ i := by
      have hx : x.toNat ≤ 1 := by cases x <;> decide
      rw [Nat.pow_succ', ← Nat.div_div_eq_div_mul]; congr 1; omega
    simp only [List.getElem?_cons_succ, valB, h]
    exact getB a i
def tb2 (A i : Nat) : Bool := A / 2 ^ i % 2 == 1
def cy (A B i : Nat) : Nat := (A % 2 ^ i + B % 2 ^ i) / 2 ^ i
theorem cy_le (A B i : Nat) : cy A B i ≤ 1 := by
  unfold cy
  have hp := Nat.two_pow_pos i
  have h1 := Nat.mod_lt A hp
  have h2 := Nat.mod_lt B hp
  have : (A % 2 ^ i + B % 2 ^ i) / 2 ^ i < 2 := by rw [Nat.div_lt_iff_lt_mul hp]; omega
  omega
theorem cy_zero (A B : Nat) : cy A B 0 = 0 := by simp [cy, Nat.mod_one]
theorem cy_succ (A B i : Nat) : cy A B (i + 1) = (A / 2 ^ i % 2 + B / 2 ^ i % 2 + cy A B i) / 2 := by
  unfold cy
  have hp := Nat.two_pow_pos i
  rw [Nat.mod_pow_succ (x := A) (b := 2) (k := i), Nat.mod_pow_succ (x := B) (b := 2) (k := i), Nat.pow_succ, ← Nat.div_div_eq_div_mul]
  generalize A % 2 ^ i = r
  generalize B % 2 ^ i = s
  generalize A / 2 ^ i % 2 = x
  generalize B / 2 ^ i % 2 = y
  generalize 2 ^ i = P at *
  have : r + P * x + (s + P * y) = r + s + P * (x + y) := by rw [Nat.mul_add]; omega
  rw [this, Nat.add_mul_div_left _ _ hp]
  congr 1; omega
theorem sum_bit (A B i : Nat) : (A + B) / 2 ^ i % 2 = (A / 2 ^ i % 2 + B / 2 ^ i % 2 + cy A B i) % 2 := by
  unfold cy
  have hp := Nat.two_pow_pos i
  have h1 := Nat.div_add_mod A (2 ^ i)
  have h2 := Nat.div_add_mod B (2 ^ i)
  generalize A % 2 ^ i = r at *
  generalize B % 2 ^ i = s at *
  generalize A / 2 ^ i = x at *
  generalize B / 2 ^ i = y at *
  generalize 2 ^ i = P at *
  have : A + B = r + s + P * (x + y) := by rw [Nat.mul_add]; omega
  rw [this, Nat.add_mul_div_left _ _ hp]
  omega
def cyB (A B i : Nat) : Bool := cy A B i == 1
theorem mod2B (n : Nat) : n % 2 = (n % 2 == 1).toNat := by rcases Nat.mod_two_eq_zero_or_one n with h | h <;> rw [h] <;> rfl
theorem cyB_nat (A B i : Nat) : cy A B i = (cyB A B i).toNat := by
  unfold cyB
  have := cy_le A B i
  have : cy A B i = 0 ∨ cy A B i = 1 := by omega
  rcases this with h | h <;> rw [h] <;> rfl
theorem cyB_succ (A B i : Nat) : cyB A B (i + 1) = (tb2 A i && tb2 B i || tb2 A i && cyB A B i || tb2 B i && cyB A B i) := by
  have h := cy_succ A B i
  rw [mod2B (A / 2 ^ i), mod2B (B / 2 ^ i), cyB_nat A B i] at h
  rw [show cyB A B (i + 1) = (cy A B (i + 1) == 1) from rfl, h]
  unfold tb2
  cases (A / 2 ^ i % 2 == 1) <;> cases (B / 2 ^ i % 2 == 1) <;> cases cyB A B i <;> rfl
theorem sum_bitB (A B i : Nat) : tb2 (A + B) i = ((tb2 A i != tb2 B i) != cyB A B i) := by
  have h := sum_bit A B i
  rw [mod2B (A / 2 ^ i), mod2B (B / 2 ^ i), cyB_nat A B i] at h
  rw [show tb2 (A + B) i = ((A + B) / 2 ^ i % 2 == 1) from rfl, h]
  unfold tb2
  cases (A / 2 ^ i % 2 == 1) <;> cases (B / 2 ^ i % 2 == 1) <;> cases cyB A B i <;> rfl
theorem cy_top {A B n : Nat} (hA : A < 2 ^ n) (hB : B < 2 ^ n) : A + B < 2 ^ (n + cy A B n) := by
  unfold cy
  rw [Nat.mod_eq_of_lt hA, Nat.mod_eq_of_lt hB]
  by_cases h : A + B < 2 ^ n
  · rw [Nat.div_eq_of_lt h]; exact h
  · have : (A + B) / 2 ^ n = 1 := by
      have hp := Nat.two_pow_pos n
      have h1 : (A + B) / 2 ^ n < 2 := by rw [Nat.div_lt_iff_lt_mul hp]; omega
      have h2 : 1 ≤ (A + B) / 2 ^ n := by rw [Nat.le_div_iff_mul_le hp]; omega
      omega
    rw [this, Nat.pow_succ]; omega
theorem cyB_top {A B n i : Nat} (hS : A + B < 2 ^ n) (h : n ≤ i) : cyB A B i = false := by
  unfold cyB cy
  have h1 := Nat.lt_of_lt_of_le hS (Nat.pow_le_pow_right (n := 2) (by omega) h)
  rw [Nat.mod_eq_of_lt (by omega : A < 2 ^ i), Nat.mod_eq_of_lt (by omega : B < 2 ^ i), Nat.div_eq_of_lt h1]; rfl
theorem valB_lt' {a : List Bool} {n : Nat} (h : a.length ≤ n) : valB a < 2 ^ n := Nat.lt_of_lt_of_le (valB_lt a) (Nat.pow_le_pow_right (by omega) h)
def addB (a b : List Bool) : List Bool := bitsB (max a.length b.length + cy (valB a) (valB b) (max a.length b.length)) (valB a + valB b)
theorem addB_val (a b : List Bool) : valB (addB a b) = valB a + valB b := by
  unfold addB
  rw [bitsB_val]
  exact Nat.mod_eq_of_lt (cy_top (valB_lt' (Nat.le_max_left ..)) (valB_lt' (Nat.le_max_right ..)))
theorem addB_len (a b : List Bool) : (addB a b).length ≤ max a.length b.length + 1 := by
  unfold addB
  rw [bitsB_len]
  have := cy_le (valB a) (valB b) (max a.length b.length)
  omega
theorem bitB_nat (a : List Bool) (i : Nat) : (bif decide (0 ≤ (i : Int)) then (a[(i : Int).toNat]?).getD false else false) = tb2 (valB a) i := by
  rw [decide_eq_true (by omega), cond_true, Int.toNat_natCast]; exact getB a i
theorem dif_bit {A B i : Nat} (h : B ≤ A) : tb2 (A - B) i = ((tb2 A i != tb2 B i) != cyB B (A - B) i) := by
  have h1 := sum_bitB B (A - B) i
  rw [Nat.add_sub_cancel' h] at h1
  revert h1
  cases tb2 A i <;> cases tb2 B i <;> cases tb2 (A - B) i <;> cases cyB B (A - B) i <;> decide
theorem dif_cy {A B i : Nat} (h : B ≤ A) : cyB B (A - B) (i + 1) = (!tb2 A i && (tb2 B i || cyB B (A - B) i) || tb2 A i && tb2 B i && cyB B (A - B) i) := by
  rw [cyB_succ, dif_bit h]
  cases tb2 A i <;> cases tb2 B i <;> cases cyB B (A - B) i <;> rfl
theorem cmp_bit {A B i : Nat} (h : A / 2 ^ (i + 1) = B / 2 ^ (i + 1)) (hx : tb2 A i ≠ tb2 B i) : cmpI A B = bif tb2 A i then 1 else -1 := by
  have hp := Nat.two_pow_pos i
  rw [Nat.pow_succ, ← Nat.div_div_eq_div_mul, ← Nat.div_div_eq_div_mul] at h
  have h1 := Nat.div_add_mod A (2 ^ i)
  have h2 := Nat.div_add_mod B (2 ^ i)
  have h3 := Nat.mod_lt A hp
  have h4 := Nat.mod_lt B hp
  have hA := mod2B (A / 2 ^ i)
  have hB := mod2B (B / 2 ^ i)
  unfold tb2 at *
  unfold cmpI
  generalize A % 2 ^ i = r at *
  generalize B % 2 ^ i = s at *
  generalize A / 2 ^ i = x at *
  generalize B / 2 ^ i = y at *
  generalize 2 ^ i = P at *
  cases hx1 : (x % 2 == 1) with
  | true =>
    cases hy1 : (y % 2 == 1) with
    | true => exact absurd (hx1.trans hy1.symm) hx
    | false =>
      rw [hx1] at hA; rw [hy1] at hB
      simp only [Bool.toNat_true, Bool.toNat_false] at hA hB
      have hxy : x = y + 1 := by omega
      have : P * x = P * y + P := by rw [hxy, Nat.mul_succ]
      rw [if_neg (by omega), if_neg (by omega)]; rfl
  | false =>
    cases hy1 : (y % 2 == 1) with
    | false => exact absurd (hx1.trans hy1.symm) hx
    | true =>
      rw [hx1] at hA; rw [hy1] at hB
      simp only [Bool.toNat_true, Bool.toNat_false] at hA hB
      have hxy : y = x + 1 := by omega
      have : P * y = P * x + P := by rw [hxy, Nat.mul_succ]
      rw [if_pos (by omega)]; rfl
theorem div_bit {A B i : Nat} (h : A / 2 ^ (i + 1) = B / 2 ^ (i + 1)) (hx : tb2 A i = tb2 B i) : A / 2 ^ i = B / 2 ^ i := by
  rw [Nat.pow_succ, ← Nat.div_div_eq_div_mul, ← Nat.div_div_eq_div_mul] at h
  have hA := mod2B (A / 2 ^ i)
  have hB := mod2B (B / 2 ^ i)
  unfold tb2 at hx
  rw [hx] at hA
  omega
theorem cmpI_self (A : Nat) : cmpI A A = 0 := by unfold cmpI; rw [if_neg (by omega), if_pos rfl]
end Su
end
section
namespace Su
open Go Fly
set_option linter.unusedVariables false
noncomputable section
def bOf_l2 : ((List Int) × (Nat × (Int × (Int × ((List Su.T) × Unit))))) → Option (((List Int) × (Nat × (Int × (Int × ((List Su.T) × Unit))))) ⊕ ((List Int) × (Nat × (Int × (Int × ((List Su.T) × Unit)))))) := fun p1 => (bif (decide ((p1.2.2.2.1 < 64))) then
  ((Su.idx p1.1 p1.2.2.1)).bind fun x2 =>
  (bif (decide ((0 ≤ (Go.IntKind.wrap .u64 p1.2.2.2.1)))) then
  (bif ((true && (Nat.beq p1.2.1 (List.length p1.2.2.2.2.1))) && (Nat.ble ((List.length p1.2.2.2.2.1) + (List.length [(T.s (.bool (decide (((Fly.bitv Go.BinOp.and .u64 (Int.fdiv x2 (2 ^ (min (Int.toNat (Go.IntKind.wrap .u64 p1.2.2.2.1)) 64))) 1) = 1)))))])) 549755813888)) then
  some (.inl (p1.1, ((List.length (p1.2.2.2.2.1 ++ [(T.s (.bool (decide (((Fly.bitv Go.BinOp.and .u64 (Int.fdiv x2 (2 ^ (min (Int.toNat (Go.IntKind.wrap .u64 p1.2.2.2.1)) 64))) 1) = 1)))))])), (p1.2.2.1, ((Go.IntKind.wrap .i64 (p1.2.2.2.1 + 1)), ((p1.2.2.2.2.1 ++ [(T.s (.bool (decide (((Fly.bitv Go.BinOp.and .u64 (Int.fdiv x2 (2 ^ (min (Int.toNat (Go.IntKind.wrap .u64 p1.2.2.2.1)) 64))) 1) = 1)))))]), ()))))))
 else
  none)
 else
  none)
 else
  some (.inr (p1.1, (p1.2.1, (p1.2.2.1, (p1.2.2.2.1, (p1.2.2.2.2.1, ())))))))
def bOf_l1 (fu : Nat) : ((List Int) × (Nat × (Int × ((List Su.T) × Unit)))) → Option (((List Int) × (Nat × (Int × ((List Su.T) × Unit)))) ⊕ ((List Int) × (Nat × (Int × ((List Su.T) × Unit))))) := fun p0 => (bif (decide ((p0.2.2.1 < (((List.length p0.1) : Nat) : Int)))) then
  (itP fu (bOf_l2) (p0.1, (p0.2.1, (p0.2.2.1, ((0 : Int), (p0.2.2.2.1, ())))))).bind fun x3 =>
  some (.inl (x3.1, (x3.2.1, ((Go.IntKind.wrap .i64 (x3.2.2.1 + 1)), (x3.2.2.2.2.1, ())))))
 else
  some (.inr (p0.1, (p0.2.1, (p0.2.2.1, (p0.2.2.2.1, ()))))))
def bOf  (fu : Nat) (l : (List Int)) : Option (List Bool) :=
  (itP fu (bOf_l1 fu) (l, (0, ((0 : Int), ([], ()))))).bind fun x4 =>
  ((Su.sub x4.2.2.2.1 0 x4.2.1)).bind fun x5 =>
  (Su.unviews 4 x5)
abbrev bAdd_l1_S := ((List Bool) × ((List Bool) × (Nat × (Bool × (Int × ((List Su.T) × Unit))))))
def bAdd_l1_c3 :=
  fun (p5014 : bAdd_l1_S) =>
  (bif (Su.bitB p5014.2.1 p5014.2.2.2.2.1) then
  some (.inl (p5014.1, (p5014.2.1, ((List.length (p5014.2.2.2.2.2.1 ++ [(T.s (.bool (!(decide (((!(decide (((Su.bitB p5014.1 p5014.2.2.2.2.1) = (Su.bitB p5014.2.1 p5014.2.2.2.2.1))))) = p5014.2.2.2.1))))))])), (p5014.2.2.2.1, ((Go.IntKind.wrap .i64 (p5014.2.2.2.2.1 + 1)), ((p5014.2.2.2.2.2.1 ++ [(T.s (.bool (!(decide (((!(decide (((Su.bitB p5014.1 p5014.2.2.2.2.1) = (Su.bitB p5014.2.1 p5014.2.2.2.2.1))))) = p5014.2.2.2.1))))))]), ())))))))
 else
  some (.inl (p5014.1, (p5014.2.1, ((List.length (p5014.2.2.2.2.2.1 ++ [(T.s (.bool (!(decide (((!(decide (((Su.bitB p5014.1 p5014.2.2.2.2.1) = (Su.bitB p5014.2.1 p5014.2.2.2.2.1))))) = p5014.2.2.2.1))))))])), (false, ((Go.IntKind.wrap .i64 (p5014.2.2.2.2.1 + 1)), ((p5014.2.2.2.2.2.1 ++ [(T.s (.bool (!(decide (((!(decide (((Su.bitB p5014.1 p5014.2.2.2.2.1) = (Su.bitB p5014.2.1 p5014.2.2.2.2.1))))) = p5014.2.2.2.1))))))]), ()))))))) : Option (bAdd_l1_S ⊕ bAdd_l1_S))
def bAdd_l1_c1 :=
  fun (p5012 : bAdd_l1_S) =>
  (bif (Su.bitB p5012.1 p5012.2.2.2.2.1) then
  (bif p5012.2.2.2.1 then
  some (.inl (p5012.1, (p5012.2.1, ((List.length (p5012.2.2.2.2.2.1 ++ [(T.s (.bool (!(decide (((!(decide (((Su.bitB p5012.1 p5012.2.2.2.2.1) = (Su.bitB p5012.2.1 p5012.2.2.2.2.1))))) = p5012.2.2.2.1))))))])), (true, ((Go.IntKind.wrap .i64 (p5012.2.2.2.2.1 + 1)), ((p5012.2.2.2.2.2.1 ++ [(T.s (.bool (!(decide (((!(decide (((Su.bitB p5012.1 p5012.2.2.2.2.1) = (Su.bitB p5012.2.1 p5012.2.2.2.2.1))))) = p5012.2.2.2.1))))))]), ())))))))
 else
  (bAdd_l1_c3 p5012))
 else
  (bAdd_l1_c3 p5012) : Option (bAdd_l1_S ⊕ bAdd_l1_S))
def bAdd_l1_c2 :=
  fun (p5013 : bAdd_l1_S) =>
  (bif ((true && (Nat.beq p5013.2.2.1 (List.length p5013.2.2.2.2.2.1))) && (Nat.ble ((List.length p5013.2.2.2.2.2.1) + (List.length [(T.s (.bool (!(decide (((!(decide (((Su.bitB p5013.1 p5013.2.2.2.2.1) = (Su.bitB p5013.2.1 p5013.2.2.2.2.1))))) = p5013.2.2.2.1))))))])) 549755813888)) then
  (bif (Su.bitB p5013.1 p5013.2.2.2.2.1) then
  (bif (Su.bitB p5013.2.1 p5013.2.2.2.2.1) then
  some (.inl (p5013.1, (p5013.2.1, ((List.length (p5013.2.2.2.2.2.1 ++ [(T.s (.bool (!(decide (((!(decide (((Su.bitB p5013.1 p5013.2.2.2.2.1) = (Su.bitB p5013.2.1 p5013.2.2.2.2.1))))) = p5013.2.2.2.1))))))])), (true, ((Go.IntKind.wrap .i64 (p5013.2.2.2.2.1 + 1)), ((p5013.2.2.2.2.2.1 ++ [(T.s (.bool (!(decide (((!(decide (((Su.bitB p5013.1 p5013.2.2.2.2.1) = (Su.bitB p5013.2.1 p5013.2.2.2.2.1))))) = p5013.2.2.2.1))))))]), ())))))))
 else
  (bAdd_l1_c1 p5013))
 else
  (bAdd_l1_c1 p5013))
 else
  none : Option (bAdd_l1_S ⊕ bAdd_l1_S))
def bAdd_l1 : bAdd_l1_S → Option (bAdd_l1_S ⊕ bAdd_l1_S) := fun p0 => (bif (decide ((p0.2.2.2.2.1 < (((List.length p0.1) : Nat) : Int)))) then
  (bAdd_l1_c2 p0)
 else
  (bif (decide ((p0.2.2.2.2.1 < (((List.length p0.2.1) : Nat) : Int)))) then
  (bAdd_l1_c2 p0)
 else
  (bif p0.2.2.2.1 then
  (bAdd_l1_c2 p0)
 else
  some (.inr (p0.1, (p0.2.1, (p0.2.2.1, (p0.2.2.2.1, (p0.2.2.2.2.1, (p0.2.2.2.2.2.1, ()))))))))))
def bAdd  (fu : Nat) (a : (List Bool)) (b : (List Bool)) : Option (List Bool) :=
  (itP fu (bAdd_l1) (a, (b, (0, (false, ((0 : Int), ([], ()))))))).bind fun x1 =>
  ((Su.sub x1.2.2.2.2.2.1 0 x1.2.2.1)).bind fun x2 =>
  (Su.unviews 4 x2)
def bCmp_l1 : ((List Bool) × ((List Bool) × (Int × Unit))) → Option (((List Bool) × ((List Bool) × (Int × Unit))) ⊕ (Lp ((List Bool) × ((List Bool) × (Int × Unit))) Int)) := fun p0 => (bif (decide ((0 ≤ p0.2.2.1))) then
  (bif (!(decide (((Su.bitB p0.1 p0.2.2.1) = (Su.bitB p0.2.1 p0.2.2.1))))) then
  (bif (Su.bitB p0.1 p0.2.2.1) then
  some (.inr (.ret 1))
 else
  some (.inr (.ret (-1))))
 else
  some (.inl (p0.1, (p0.2.1, ((Go.IntKind.wrap .i64 (p0.2.2.1 - 1)), ())))))
 else
  some (.inr (.exit 0 (p0.1, (p0.2.1, (p0.2.2.1, ()))))))
def bCmp  (fu : Nat) (a : (List Bool)) (b : (List Bool)) : Option Int :=
  (itP fu (bCmp_l1) (a, (b, ((Go.IntKind.wrap .i64 ((max (((List.length a) : Nat) : Int) (((List.length b) : Nat) : Int)) - 1)), ())))).bind fun x1 =>
  (match x1 with
 | .exit i2 p3 => (bif (Nat.beq i2 0) then
  some 0
 else
  none)
 | .ret o4 => some o4)
abbrev bSub_l1_S := ((List Bool) × ((List Bool) × (Int × (Nat × (Bool × (Int × ((List Su.T) × Unit)))))))
def bSub_l1_c1 :=
  fun (p5015 : bSub_l1_S) =>
  (bif (Su.bitB p5015.1 p5015.2.2.2.2.2.1) then
  (bif (Su.bitB p5015.2.1 p5015.2.2.2.2.2.1) then
  some (.inl (p5015.1, (p5015.2.1, (p5015.2.2.1, ((List.length (p5015.2.2.2.2.2.2.1 ++ [(T.s (.bool (!(decide (((!(decide (((Su.bitB p5015.1 p5015.2.2.2.2.2.1) = (Su.bitB p5015.2.1 p5015.2.2.2.2.2.1))))) = p5015.2.2.2.2.1))))))])), (p5015.2.2.2.2.1, ((Go.IntKind.wrap .i64 (p5015.2.2.2.2.2.1 + 1)), ((p5015.2.2.2.2.2.2.1 ++ [(T.s (.bool (!(decide (((!(decide (((Su.bitB p5015.1 p5015.2.2.2.2.2.1) = (Su.bitB p5015.2.1 p5015.2.2.2.2.2.1))))) = p5015.2.2.2.2.1))))))]), ()))))))))
 else
  some (.inl (p5015.1, (p5015.2.1, (p5015.2.2.1, ((List.length (p5015.2.2.2.2.2.2.1 ++ [(T.s (.bool (!(decide (((!(decide (((Su.bitB p5015.1 p5015.2.2.2.2.2.1) = (Su.bitB p5015.2.1 p5015.2.2.2.2.2.1))))) = p5015.2.2.2.2.1))))))])), (false, ((Go.IntKind.wrap .i64 (p5015.2.2.2.2.2.1 + 1)), ((p5015.2.2.2.2.2.2.1 ++ [(T.s (.bool (!(decide (((!(decide (((Su.bitB p5015.1 p5015.2.2.2.2.2.1) = (Su.bitB p5015.2.1 p5015.2.2.2.2.2.1))))) = p5015.2.2.2.2.1))))))]), ())))))))))
 else
  some (.inl (p5015.1, (p5015.2.1, (p5015.2.2.1, ((List.length (p5015.2.2.2.2.2.2.1 ++ [(T.s (.bool (!(decide (((!(decide (((Su.bitB p5015.1 p5015.2.2.2.2.2.1) = (Su.bitB p5015.2.1 p5015.2.2.2.2.2.1))))) = p5015.2.2.2.2.1))))))])), (false, ((Go.IntKind.wrap .i64 (p5015.2.2.2.2.2.1 + 1)), ((p5015.2.2.2.2.2.2.1 ++ [(T.s (.bool (!(decide (((!(decide (((Su.bitB p5015.1 p5015.2.2.2.2.2.1) = (Su.bitB p5015.2.1 p5015.2.2.2.2.2.1))))) = p5015.2.2.2.2.1))))))]), ())))))))) : Option (bSub_l1_S ⊕ bSub_l1_S))
def bSub_l1 : bSub_l1_S → Option (bSub_l1_S ⊕ bSub_l1_S) := fun p0 => (bif (decide ((p0.2.2.2.2.2.1 < p0.2.2.1))) then
  (bif ((true && (Nat.beq p0.2.2.2.1 (List.length p0.2.2.2.2.2.2.1))) && (Nat.ble ((List.length p0.2.2.2.2.2.2.1) + (List.length [(T.s (.bool (!(decide (((!(decide (((Su.bitB p0.1 p0.2.2.2.2.2.1) = (Su.bitB p0.2.1 p0.2.2.2.2.2.1))))) = p0.2.2.2.2.1))))))])) 549755813888)) then
  (bif (!(Su.bitB p0.1 p0.2.2.2.2.2.1)) then
  (bif (Su.bitB p0.2.1 p0.2.2.2.2.2.1) then
  some (.inl (p0.1, (p0.2.1, (p0.2.2.1, ((List.length (p0.2.2.2.2.2.2.1 ++ [(T.s (.bool (!(decide (((!(decide (((Su.bitB p0.1 p0.2.2.2.2.2.1) = (Su.bitB p0.2.1 p0.2.2.2.2.2.1))))) = p0.2.2.2.2.1))))))])), (true, ((Go.IntKind.wrap .i64 (p0.2.2.2.2.2.1 + 1)), ((p0.2.2.2.2.2.2.1 ++ [(T.s (.bool (!(decide (((!(decide (((Su.bitB p0.1 p0.2.2.2.2.2.1) = (Su.bitB p0.2.1 p0.2.2.2.2.2.1))))) = p0.2.2.2.2.1))))))]), ()))))))))
 else
  (bif p0.2.2.2.2.1 then
  some (.inl (p0.1, (p0.2.1, (p0.2.2.1, ((List.length (p0.2.2.2.2.2.2.1 ++ [(T.s (.bool (!(decide (((!(decide (((Su.bitB p0.1 p0.2.2.2.2.2.1) = (Su.bitB p0.2.1 p0.2.2.2.2.2.1))))) = p0.2.2.2.2.1))))))])), (true, ((Go.IntKind.wrap .i64 (p0.2.2.2.2.2.1 + 1)), ((p0.2.2.2.2.2.2.1 ++ [(T.s (.bool (!(decide (((!(decide (((Su.bitB p0.1 p0.2.2.2.2.2.1) = (Su.bitB p0.2.1 p0.2.2.2.2.2.1))))) = p0.2.2.2.2.1))))))]), ()))))))))
 else
  (bSub_l1_c1 p0)))
 else
  (bSub_l1_c1 p0))
 else
  none)
 else
  some (.inr (p0.1, (p0.2.1, (p0.2.2.1, (p0.2.2.2.1, (p0.2.2.2.2.1, (p0.2.2.2.2.2.1, (p0.2.2.2.2.2.2.1, ())))))))))
def bSub  (fu : Nat) (a : (List Bool)) (b : (List Bool)) (n : Int) : Option ((List Bool) × Bool) :=
  (itP fu (bSub_l1) (a, (b, (n, (0, (false, ((0 : Int), ([], ())))))))).bind fun x1 =>
  ((Su.sub x1.2.2.2.2.2.2.1 0 x1.2.2.2.1)).bind fun x2 =>
  ((Su.unviews 4 x2)).bind fun x3 =>
  some (x3, x1.2.2.2.2.1)
theorem bitB_n (a : List Bool) (i : Nat) : bitB a (i : Int) = tb2 (valB a) i := bitB_nat a i
theorem map_bits (k n : Nat) : (bitsB k n).map eB ++ [T.s (.bool (tb2 n k))] = (bitsB (k + 1) n).map eB := by rw [bitsB_succ, List.map_append]; rfl
theorem len_bits (k n : Nat) : ((bitsB k n).map eB).length = k := by rw [List.length_map, bitsB_len]
theorem sub_bits (k n : Nat) : sub ((bitsB k n).map eB) 0 k = some ((bitsB k n).map eB) := by
  have := sub_allB (bitsB k n)
  rwa [len_bits] at this
theorem bAdd_step (a b : List Bool) (m : Nat) (c : Bool) (i : Int) (out : List T) : bAdd_l1 (a, (b, (m, (c, (i, (out, ())))))) =
    bif decide (i < ((a.length : Nat) : Int)) || (decide (i < ((b.length : Nat) : Int)) || c) then
      (bif Nat.beq m out.length && Nat.ble (out.length + 1) 549755813888 then
        some (.inl (a, (b, (out.length + 1, ((bitB a i && bitB b i || bitB a i && c || bitB b i && c), (IntKind.i64.wrap (i + 1), (out ++ [T.s (.bool ((bitB a i != bitB b i) != c))], ())))))))
      else none)
    else some (.inr (a, (b, (m, (c, (i, (out, ()))))))) := by
  simp only [bAdd_l1, bAdd_l1_c2, bAdd_l1_c1, bAdd_l1_c3, List.length_append, List.length_singleton, Bool.true_and]
  generalize bitB a i = x
  generalize bitB b i = y
  generalize decide (i < ((a.length : Nat) : Int)) = p
  generalize decide (i < ((b.length : Nat) : Int)) = q
  generalize (Nat.beq m out.length && Nat.ble (out.length + 1) 549755813888) = g
  cases p <;> cases q <;> cases x <;> cases y <;> cases c <;> cases g <;> rfl
def bAdd_s (p : List Bool × List Bool) : Option (List Bool) := bif Nat.ble (max p.1.length p.2.length + 1) 549755813888 then some (addB p.1 p.2) else none
theorem bAdd_one {a b : List Bool} {i : Nat} (h : i < a.length ∨ i < b.length ∨ cyB (valB a) (valB b) i = true) (hi : i + 1 ≤ 549755813888) :
    bAdd_l1 (a, (b, (i, (cyB (valB a) (valB b) i, ((i : Int), ((bitsB i (valB a + valB b)).map eB, ())))))) = some (.inl (a, (b, (i + 1, (cyB (valB a) (valB b) (i + 1), (((i + 1 : Nat) : Int), ((bitsB (i + 1) (valB a + valB b)).map eB, ()))))))) := by
  rw [bAdd_step, len_bits, bitB_n, bitB_n, ← sum_bitB, ← cyB_succ, map_bits, w64 (by omega) (by omega)]
  have h1 : Nat.beq i i = true := Nat.beq_refl _
  have h2 : Nat.ble (i + 1) 549755813888 = true := by rw [Nat.ble_eq]; exact hi
  rw [h1, h2]
  have h3 : (decide ((i : Int) < ((a.length : Nat) : Int)) || (decide ((i : Int) < ((b.length : Nat) : Int)) || cyB (valB a) (valB b) i)) = true := by
    rcases h with h | h | h
    · rw [decide_eq_true (by omega)]; rfl
    · rw [decide_eq_true (by omega : (i : Int) < ((b.length : Nat) : Int))]; simp
    · rw [h]; simp
  rw [h3]; rfl
theorem bAdd_end {a b : List Bool} {i : Nat} (h1 : a.length ≤ i) (h2 : b.length ≤ i) (h3 : cyB (valB a) (valB b) i = false) :
    bAdd_l1 (a, (b, (i, (cyB (valB a) (valB b) i, ((i : Int), ((bitsB i (valB a + valB b)).map eB, ())))))) = some (.inr (a, (b, (i, (cyB (valB a) (valB b) i, ((i : Int), ((bitsB i (valB a + valB b)).map eB, ()))))))) := by
  rw [bAdd_step, decide_eq_false (by omega), decide_eq_false (by omega), h3]; rfl
theorem bAdd_loop {a b : List Bool} (hN : max a.length b.length + 1 ≤ 549755813888) : ∀ k i : Nat, i + k = max a.length b.length →
    ∃ f, itP f bAdd_l1 (a, (b, (i, (cyB (valB a) (valB b) i, ((i : Int), ((bitsB i (valB a + valB b)).map eB, ())))))) = some (a, (b, ((addB a b).length, (false, (((addB a b).length : Int), ((addB a b).map eB, ()))))))
  | 0, i, hk => by
    have ha : a.length ≤ i := by omega
    have hb : b.length ≤ i := by omega
    have hi : max a.length b.length = i := by omega
    have hL : (addB a b).length = i + cy (valB a) (valB b) i := by unfold addB; rw [bitsB_len, hi]
    have hv : addB a b = bitsB (i + cy (valB a) (valB b) i) (valB a + valB b) := by unfold addB; rw [hi]
    rw [hL, hv]
    cases hc : cyB (valB a) (valB b) i with
    | false =>
      rw [cyB_nat, hc, ← hc]
      have := bAdd_end ha hb hc
      rw [hc] at this ⊢
      exact it_end this
    | true =>
      rw [cyB_nat, hc]
      have h1 := bAdd_one (a := a) (b := b) (i := i) (.inr (.inr hc)) (by omega)
      have hS := cy_top (valB_lt' ha) (valB_lt' hb)
      rw [cyB_nat, hc] at hS
      have h2 : cyB (valB a) (valB b) (i + 1) = false := cyB_top hS (Nat.le_refl _)
      have h3 := bAdd_end (a := a) (b := b) (i := i + 1) (by omega) (by omega) h2
      rw [hc, h2] at h1
      rw [h2] at h3
      exact it_next h1 (it_end h3)
  | k + 1, i, hk => by
    have h := bAdd_one (a := a) (b := b) (i := i) (by omega) (by omega)
    exact it_next h (bAdd_loop hN k (i + 1) (by omega))
theorem bAdd_ok (p : List Bool × List Bool) (y : List Bool) (hg : (dc (cQ 4 1) (d1 (cQ 4 1))).good p) (h : bAdd_s p = some y) : ∃ n, bAdd n p.1 p.2 = some y := by
  obtain ⟨a, b⟩ := p
  obtain ⟨hle, h⟩ := bif_some h
  have := soi h; subst this
  have hle := Nat.le_of_ble_eq_true hle
  simp only [] at hle ⊢
  obtain ⟨f, hf⟩ := bAdd_loop hle (max a.length b.length) 0 (by omega)
  have e : cyB (valB a) (valB b) 0 = false := by unfold cyB; rw [cy_zero]; rfl
  rw [e] at hf
  refine ⟨f, ?_⟩
  unfold bAdd
  have hf' : itP f bAdd_l1 (a, (b, (0, (false, ((0 : Int), (([] : List T), ())))))) = _ := hf
  rw [hf', Option.bind_some]
  simp only []
  have := sub_allB (addB a b)
  rw [List.length_map] at this
  rw [this]
  exact unviews_b _
def bCmp_s (p : List Bool × List Bool) : Option Int := some (cmpI (valB p.1) (valB p.2))
theorem bCmp_loop (a b : List Bool) (hl : max a.length b.length ≤ 9223372036854775807) : ∀ n : Nat, n ≤ max a.length b.length → valB a / 2 ^ n = valB b / 2 ^ n →
    ∃ f, (itP f bCmp_l1 (a, (b, ((n : Int) - 1, ())))).bind (fun x1 => (match x1 with
      | .exit i2 p3 => (bif (Nat.beq i2 0) then some 0 else none)
      | .ret o4 => some o4)) = some (cmpI (valB a) (valB b))
  | 0, _, h => by
    rw [Nat.pow_zero, Nat.div_one, Nat.div_one] at h
    rw [h, cmpI_self]
    obtain ⟨f, hf⟩ := it_end (F := bCmp_l1) (s := (a, (b, (((0 : Nat) : Int) - 1, ())))) (r := Lp.exit 0 (a, (b, (((0 : Nat) : Int) - 1, ())))) (by simp only [bCmp_l1]; rw [decide_eq_false (by omega)]; rfl)
    exact ⟨f, by rw [hf]; rfl⟩
  | n + 1, hn, h => by
    have e0 : ((n + 1 : Nat) : Int) - 1 = (n : Int) := by omega
    rw [e0]
    by_cases hx : tb2 (valB a) n = tb2 (valB b) n
    · obtain ⟨f, hf⟩ := bCmp_loop a b hl n (by omega) (div_bit h hx)
      have hs : bCmp_l1 (a, (b, ((n : Int), ()))) = some (.inl (a, (b, ((n : Int) - 1, ())))) := by
        simp only [bCmp_l1]
        rw [decide_eq_true (by omega), cond_true, bitB_n, bitB_n, decide_eq_true hx, w64 (by omega) (by omega)]; rfl
      exact ⟨f + 1, by rw [itP_s, hs]; exact hf⟩
    · rw [cmp_bit h hx]
      have hs : bCmp_l1 (a, (b, ((n : Int), ()))) = some (.inr (.ret (bif tb2 (valB a) n then 1 else -1))) := by
        simp only [bCmp_l1]
        rw [decide_eq_true (by omega), cond_true, bitB_n, bitB_n, decide_eq_false hx]
        cases tb2 (valB a) n <;> rfl
      obtain ⟨f, hf⟩ := it_end hs
      exact ⟨f, by rw [hf]; rfl⟩
theorem bCmp_ok (p : List Bool × List Bool) (y : Int) (hg : (dc (cQ 4 1) (d1 (cQ 4 1))).good p) (h : bCmp_s p = some y) : ∃ n, bCmp n p.1 p.2 = some y := by
  obtain ⟨a, b⟩ := p
  have := soi h; subst this
  have h1 : a.length ≤ 9223372036854775807 := by rw [← maxLen_eq]; exact hg.1.2
  have h2 : b.length ≤ 9223372036854775807 := by rw [← maxLen_eq]; exact hg.2.2
  obtain ⟨f, hf⟩ := bCmp_loop a b (by omega) (max a.length b.length) (Nat.le_refl _) (by rw [Nat.div_eq_of_lt (valB_lt' (Nat.le_max_left ..)), Nat.div_eq_of_lt (valB_lt' (Nat.le_max_right ..))])
  refine ⟨f, ?_⟩
  unfold bCmp
  simp only []
  have e : IntKind.i64.wrap (max ((a.length : Nat) : Int) ((b.length : Nat) : Int) - 1) = ((max a.length b.length : Nat) : Int) - 1 := by
    rw [w64 (by omega) (by omega)]; omega
  rw [e]
  exact hf
theorem bSub_step (a b : List Bool) (n : Int) (m : Nat) (c : Bool) (i : Int) (out : List T) : bSub_l1 (a, (b, (n, (m, (c, (i, (out, ()))))))) =
    bif decide (i < n) then
      (bif Nat.beq m out.length && Nat.ble (out.length + 1) 549755813888 then
        some (.inl (a, (b, (n, (out.length + 1, ((!bitB a i && (bitB b i || c) || bitB a i && bitB b i && c), (IntKind.i64.wrap (i + 1), (out ++ [T.s (.bool ((bitB a i != bitB b i) != c))], ()))))))))
      else none)
    else some (.inr (a, (b, (n, (m, (c, (i, (out, ())))))))) := by
  simp only [bSub_l1, bSub_l1_c1, List.length_append, List.length_singleton, Bool.true_and]
  generalize bitB a i = x
  generalize bitB b i = y
  generalize decide (i < n) = p
  generalize (Nat.beq m out.length && Nat.ble (out.length + 1) 549755813888) = g
  cases p <;> cases x <;> cases y <;> cases c <;> cases g <;> rfl
def bSub_s (p : List Bool × (List Bool × Int)) : Option (List Bool × Bool) := bif decide (valB p.2.1 ≤ valB p.1) && (Nat.ble p.1.length p.2.2.toNat && Nat.ble p.2.2.toNat 549755813888) then some (bitsB p.2.2.toNat (valB p.1 - valB p.2.1), false) else none
theorem bSub_loop {a b : List Bool} {N : Nat} (hN : N ≤ 549755813888) (hv : valB b ≤ valB a) : ∀ k i : Nat, i + k = N →
    ∃ f, itP f bSub_l1 (a, (b, ((N : Int), (i, (cyB (valB b) (valB a - valB b) i, ((i : Int), ((bitsB i (valB a - valB b)).map eB, ()))))))) = some (a, (b, ((N : Int), (N, (cyB (valB b) (valB a - valB b) N, ((N : Int), ((bitsB N (valB a - valB b)).map eB, ())))))))
  | 0, i, hk => by
    have : i = N := by omega
    subst this
    exact it_end (by rw [bSub_step, decide_eq_false (by omega)]; rfl)
  | k + 1, i, hk => by
    refine it_next ?_ (bSub_loop hN hv k (i + 1) (by omega))
    rw [bSub_step, decide_eq_true (by omega), len_bits, bitB_n, bitB_n, ← dif_bit hv, ← dif_cy hv, map_bits, w64 (by omega) (by omega)]
    have h1 : Nat.beq i i = true := Nat.beq_refl _
    have h2 : Nat.ble (i + 1) 549755813888 = true := by rw [Nat.ble_eq]; omega
    rw [h1, h2]; rfl
theorem bSub_ok (p : List Bool × (List Bool × Int)) (y : List Bool × Bool) (hg : (dc (cQ 4 1) (dc (cQ 4 1) (d1 (cI .i64)))).good p) (h : bSub_s p = some y) : ∃ n, bSub n p.1 p.2.1 p.2.2 = some y := by
  obtain ⟨a, b, n⟩ := p
  obtain ⟨hle, h⟩ := bif_some h
  have := soi h; subst this
  simp only [Bool.and_eq_true, decide_eq_true_eq, Nat.ble_eq] at hle
  obtain ⟨h1, h2, h3⟩ := hle
  simp only []
  have main : ∃ f, itP f bSub_l1 (a, (b, (n, (0, (false, ((0 : Int), (([] : List T), ()))))))) = some (a, (b, (n, (n.toNat, (false, (((n.toNat : Nat) : Int), ((bitsB n.toNat (valB a - valB b)).map eB, ()))))))) ∨ (n < 0 ∧ itP f bSub_l1 (a, (b, (n, (0, (false, ((0 : Int), (([] : List T), ()))))))) = some (a, (b, (n, (0, (false, ((0 : Int), (([] : List T), ())))))))) := by
    by_cases hn : n < 0
    · obtain ⟨f, hf⟩ := it_end (F := bSub_l1) (s := (a, (b, (n, (0, (false, ((0 : Int), (([] : List T), ())))))))) (r := (a, (b, (n, (0, (false, ((0 : Int), (([] : List T), ())))))))) (by rw [bSub_step, decide_eq_false (by omega)]; rfl)
      exact ⟨f, .inr ⟨hn, hf⟩⟩
    · obtain ⟨N, rfl⟩ : ∃ N : Nat, n = (N : Int) := ⟨n.toNat, by omega⟩
      rw [Int.toNat_natCast] at h2 h3 ⊢
      obtain ⟨f, hf⟩ := bSub_loop (N := N) h3 h1 N 0 (by omega)
      have e : cyB (valB b) (valB a - valB b) 0 = false := by unfold cyB; rw [cy_zero]; rfl
      have e2 : cyB (valB b) (valB a - valB b) N = false := cyB_top (n := N) (by have := valB_lt' h2; omega) (Nat.le_refl _)
      rw [e, e2] at hf
      exact ⟨f, .inl hf⟩
  obtain ⟨f, hf⟩ := main
  refine ⟨f, ?_⟩
  unfold bSub
  rcases hf with hf | ⟨hn, hf⟩
  · rw [hf, Option.bind_some]
    simp only []
    rw [sub_bits, Option.bind_some, unviews_b]; rfl
  · rw [hf, Option.bind_some]
    have : n.toNat = 0 := by omega
    rw [this]; rfl
noncomputable def wdL : {f : Nat → List Bool // ∀ n, f n = bitsB 64 n} := Classical.choice ⟨⟨_, fun _ => rfl⟩⟩
noncomputable def wdB (w : Int) : List Bool := wdL.1 w.toNat
theorem wdB_eq (w : Int) : wdB w = bitsB 64 w.toNat := wdL.2 _
noncomputable def bOf_s (l : List Int) : Option (List Bool) := bif Nat.ble (64 * l.length) 549755813888 then some (l.map wdB).flatten else none
theorem word_bit {w k : Nat} (hw : w < 18446744073709551616) (hk : k < 64) : decide (Fly.bitv BinOp.and .u64 (Int.fdiv (w : Int) (2 ^ (min (Int.toNat (IntKind.u64.wrap (k : Int))) 64))) 1 = 1) = tb2 w k := by
  rw [wu64 (by omega) (by omega), Int.toNat_natCast, Nat.min_eq_left (by omega), fd_pow]
  have h1 : w / 2 ^ k < 18446744073709551616 := Nat.lt_of_le_of_lt (Nat.div_le_self _ _) hw
  have := bv_mask (w / 2 ^ k) 1 1 (by decide) h1 (by decide)
  rw [show ((1 : Nat) : Int) = 1 from rfl, Nat.pow_one] at this
  rw [this]
  unfold tb2
  rcases Nat.mod_two_eq_zero_or_one (w / 2 ^ k) with h | h <;> rw [h] <;> rfl
theorem bOf_in (l : List Int) (i w : Nat) (hi : l[i]? = some (w : Int)) (hw : w < 18446744073709551616) (out : List T) (hb : out.length + 64 ≤ 549755813888) : ∀ (f j k : Nat), k + j = 64 → j < f →
    itP f bOf_l2 (l, (out.length + k, ((i : Int), ((k : Int), (out ++ (bitsB k w).map eB, ()))))) = some (l, (out.length + 64, ((i : Int), ((64 : Int), (out ++ (bitsB 64 w).map eB, ())))))
  | 0, _, _, _, h => absurd h (by omega)
  | f + 1, 0, k, h, _ => by
    have : k = 64 := by omega
    subst this
    rw [itP_s]
    simp only [bOf_l2]
    rw [decide_eq_false (by omega)]; rfl
  | f + 1, j + 1, k, h, hf => by
    have ih := bOf_in l i w hi hw out hb f j (k + 1) (by omega) (by omega)
    rw [itP_s]
    have hs : bOf_l2 (l, (out.length + k, ((i : Int), ((k : Int), (out ++ (bitsB k w).map eB, ()))))) = some (.inl (l, (out.length + (k + 1), ((i : Int), (((k + 1 : Nat) : Int), (out ++ (bitsB (k + 1) w).map eB, ())))))) := by
      simp only [bOf_l2]
      rw [decide_eq_true (by omega : (k : Int) < 64), cond_true, idx_nat, hi, Option.bind_some, word_bit hw (by omega), wu64 (by omega) (by omega), decide_eq_true (by omega), cond_true, List.append_assoc, map_bits, w64 (by omega) (by omega)]
      have e1 : (out ++ (bitsB k w).map eB).length = out.length + k := by rw [List.length_append, len_bits]
      have e2 : (out ++ (bitsB (k + 1) w).map eB).length = out.length + (k + 1) := by rw [List.length_append, len_bits]
      have h1 : Nat.beq (out.length + k) (out.length + k) = true := Nat.beq_refl _
      have h2 : Nat.ble (out.length + k + [T.s (.bool (tb2 w k))].length) 549755813888 = true := by rw [Nat.ble_eq, List.length_singleton]; omega
      rw [e1, e2, h1, h2]; rfl
    rw [hs]; exact ih
def wordsB (l : List Int) (i : Nat) : List Bool := ((l.take i).map fun w => bitsB 64 w.toNat).flatten
theorem wordsB_succ (l : List Int) (i : Nat) (h : i < l.length) : wordsB l (i + 1) = wordsB l i ++ bitsB 64 l[i].toNat := by
  unfold wordsB
  rw [List.take_succ_eq_append_getElem h, List.map_append, List.flatten_append]
  simp
theorem wordsB_len (l : List Int) (i : Nat) (h : i ≤ l.length) : (wordsB l i).length = 64 * i := by
  induction i with
  | zero => rfl
  | succ i ih => rw [wordsB_succ l i (by omega), List.length_append, ih (by omega), bitsB_len]; omega
theorem bOf_loop (l : List Int) (hl : 64 * l.length ≤ 549755813888) (hg : ∀ x ∈ l, inR .u64 x = true) : ∀ (f j i : Nat), i + j = l.length → j < f →
    itP f (bOf_l1 (l.length + 65)) (l, (64 * i, ((i : Int), ((wordsB l i).map eB, ())))) = some (l, (64 * l.length, ((l.length : Int), ((wordsB l l.length).map eB, ()))))
  | 0, _, _, _, h => absurd h (by omega)
  | f + 1, 0, i, h, _ => by
    have : i = l.length := by omega
    subst this
    rw [itP_s]; simp only [bOf_l1]; rw [decide_eq_false (by omega)]; rfl
  | f + 1, j + 1, i, h, hf => by
    have ih := bOf_loop l hl hg f j (i + 1) (by omega) (by omega)
    have hi : i < l.length := by omega
    obtain ⟨w, hw, hw2⟩ := asN64 (hg _ (List.getElem_mem hi))
    have hlen : ((wordsB l i).map eB).length = 64 * i := by rw [List.length_map, wordsB_len l i (by omega)]
    have hin := bOf_in l i w (by rw [List.getElem?_eq_getElem hi, hw]) hw2 ((wordsB l i).map eB) (by omega) (l.length + 65) 64 0 (by omega) (by omega)
    rw [hlen, Nat.add_zero] at hin
    have hin' : itP (l.length + 65) bOf_l2 (l, (64 * i, ((i : Int), ((0 : Int), ((wordsB l i).map eB, ()))))) = some (l, (64 * i + 64, ((i : Int), ((64 : Int), ((wordsB l i).map eB ++ (bitsB 64 w).map eB, ()))))) := by
      rw [← hin]; simp [bitsB]
    rw [itP_s]
    have hs : bOf_l1 (l.length + 65) (l, (64 * i, ((i : Int), ((wordsB l i).map eB, ())))) = some (.inl (l, (64 * (i + 1), (((i + 1 : Nat) : Int), ((wordsB l (i + 1)).map eB, ()))))) := by
      simp only [bOf_l1]
      rw [decide_eq_true (by omega : (i : Int) < ((l.length : Nat) : Int)), cond_true, hin', Option.bind_some]
      simp only []
      rw [w64 (by omega) (by omega), wordsB_succ l i hi, List.map_append, hw, Int.toNat_natCast]; rfl
    rw [hs]; exact ih
theorem bOf_ok (l : List Int) (y : List Bool) (hg : (d1 (cQ 2 1)).good l) (h : bOf_s l = some y) : ∃ n, bOf n l = some y := by
  obtain ⟨hle, h⟩ := bif_some h
  have := soi h; subst this
  have hle : 64 * l.length ≤ 549755813888 := Nat.le_of_ble_eq_true hle
  refine ⟨l.length + 65, ?_⟩
  unfold bOf
  have := bOf_loop l hle hg.1 (l.length + 65) l.length 0 (by omega) (by omega)
  have h' : itP (l.length + 65) (bOf_l1 (l.length + 65)) (l, (0, ((0 : Int), (([] : List T), ())))) = _ := this
  rw [h', Option.bind_some]
  simp only []
  have hw : wordsB l l.length = (l.map wdB).flatten := by unfold wordsB; rw [List.take_length, show wdB = (fun w : Int => bitsB 64 w.toNat) from funext wdB_eq]
  have h3 := sub_allB (wordsB l l.length)
  rw [List.length_map, wordsB_len l _ (Nat.le_refl _)] at h3
  rw [h3, ← hw]
  exact unviews_b _
end
end Su
end
