/-
  A small logic of walks: judgements, operations, regions, loops, calls. No condition.
-/
import Derived.Test.YtdmomplfmfhoiaaGreatDoorFlyI
namespace Fly
open Go
section
variable {P : Program} {n : Nat} {X : Cx} {L : Lo} {V : View} {G : Own} {K : List KI} {all : Array Oper} {ops : List Oper}
variable {ty : TypeId} {pos : String} {af : Array Edge}
theorem w_splitd {d : Option Tmp} {op : Op} {j : Nat} {b : Bool} {e : Nat} {p : Prop} [Decidable p] (_hj : (all[j]?).bind (·.dst) = some e) (hb : lk L e = some (.bool (decide p)))
    (ht : p → WR P n X ((e, .bool true) :: L) V G all (⟨d, op, ty, pos, af, some (j, b)⟩ :: ops) K)
    (hf : ¬ p → WR P n X ((e, .bool false) :: L) V G all (⟨d, op, ty, pos, af, some (j, b)⟩ :: ops) K) : WR P n X L V G all (⟨d, op, ty, pos, af, some (j, b)⟩ :: ops) K :=
  w_split hb (fun h => ht (of_decide_eq_true h)) (fun h => hf (of_decide_eq_false h))
theorem w_splitn {d : Option Tmp} {op : Op} {j : Nat} {b : Bool} {e : Nat} {p : Prop} [Decidable p] (_hj : (all[j]?).bind (·.dst) = some e) (hb : lk L e = some (.bool (!decide p)))
    (ht : ¬ p → WR P n X ((e, .bool true) :: L) V G all (⟨d, op, ty, pos, af, some (j, b)⟩ :: ops) K)
    (hf : p → WR P n X ((e, .bool false) :: L) V G all (⟨d, op, ty, pos, af, some (j, b)⟩ :: ops) K) : WR P n X L V G all (⟨d, op, ty, pos, af, some (j, b)⟩ :: ops) K :=
  w_split hb (fun h => ht (by simpa using h)) (fun h => hf (by simpa using h))
end

/-! ### Words -/
theorem bv_nat (κ : IntKind) (a : Nat) : (BitVec.ofInt κ.bits (a : Int)).toNat = a % 2 ^ κ.bits := by
  simp
theorem wrap_u64_nat {a : Nat} (h : a < 18446744073709551616) : IntKind.u64.wrap (a : Int) = (a : Int) := wrap_u64_in (by omega) (by omega)
theorem wrap_i64_nat {a : Nat} (h : a < 9223372036854775808) : IntKind.i64.wrap (a : Int) = (a : Int) := wrap_i64_in (by omega) (by omega)
theorem wrap_u32_nat (a : Nat) : IntKind.u32.wrap (a : Int) = ((a % 4294967296 : Nat) : Int) := by rw [IntKind.wrap_u32]; omega
theorem wrap_u64_mod (a : Nat) : IntKind.u64.wrap (a : Int) = ((a % 18446744073709551616 : Nat) : Int) := by rw [IntKind.wrap_u64]; omega
theorem shr_nat (κ : IntKind) (a s : Nat) : ((a : Int).fdiv (2 ^ (min s κ.bits))) = ((a / 2 ^ (min s κ.bits) : Nat) : Int) := by
  rw [Int.fdiv_eq_ediv_of_nonneg _ (by exact Int.le_of_lt (Int.pow_pos (by decide)))]
  simp
theorem and_nat {a b : Nat} (ha : a < 18446744073709551616) (hb : b < 18446744073709551616) : bitv .and .u64 (a : Int) (b : Int) = ((a &&& b : Nat) : Int) := by
  have e : IntKind.u64.bits = 64 := rfl
  simp only [bitv, BitVec.toNat_and, bv_nat, e]
  rw [Nat.mod_eq_of_lt (by omega), Nat.mod_eq_of_lt (by omega)]
  exact wrap_u64_nat (Nat.lt_of_le_of_lt Nat.and_le_left ha)
theorem or_nat {a b : Nat} (ha : a < 18446744073709551616) (hb : b < 18446744073709551616) : bitv .or .u64 (a : Int) (b : Int) = ((a ||| b : Nat) : Int) := by
  have e : IntKind.u64.bits = 64 := rfl
  simp only [bitv, BitVec.toNat_or, bv_nat, e]
  rw [Nat.mod_eq_of_lt (by omega), Nat.mod_eq_of_lt (by omega)]
  exact wrap_u64_nat (Nat.or_lt_two_pow (n := 64) (by omega) (by omega))
theorem xor_nat {a b : Nat} (ha : a < 18446744073709551616) (hb : b < 18446744073709551616) : bitv .xor .u64 (a : Int) (b : Int) = ((a ^^^ b : Nat) : Int) := by
  have e : IntKind.u64.bits = 64 := rfl
  simp only [bitv, BitVec.toNat_xor, bv_nat, e]
  rw [Nat.mod_eq_of_lt (by omega), Nat.mod_eq_of_lt (by omega)]
  exact wrap_u64_nat (Nat.xor_lt_two_pow (n := 64) (by omega) (by omega))
theorem and_mask (a k : Nat) : a &&& (2 ^ k - 1) = a % 2 ^ k := Nat.and_two_pow_sub_one_eq_mod a k
theorem and_mask64 {a : Nat} (ha : a < 18446744073709551616) (k : Nat) (hk : k ≤ 64) : bitv .and .u64 (a : Int) ((2 ^ k - 1 : Nat) : Int) = ((a % 2 ^ k : Nat) : Int) := by
  have : 2 ^ k ≤ 2 ^ 64 := Nat.pow_le_pow_right (by decide) hk
  rw [and_nat ha (by omega), and_mask]

/-! ### Floats -/
def isF (f : Nat) : Prop := f < 18446744073709551616
def fneg (f : Nat) : Bool := decide (f / 9223372036854775808 = 1)
def fexp (f : Nat) : Nat := f / 4503599627370496 % 2048
def ffrac (f : Nat) : Nat := f % 4503599627370496
/-- 3: infinite, 4: none, 0: a nought, 1: subnormal, 2: normal. -/
def fcls (f : Nat) : Nat :=
  if fexp f = 2047 then (if ffrac f = 0 then 3 else 4)
  else if fexp f = 0 then (if ffrac f = 0 then 0 else 1) else 2
/-- The integer, and the power of two. -/
def fm (f : Nat) : Nat := if fcls f = 2 then 4503599627370496 + ffrac f else if fcls f = 1 then ffrac f else 0
def fe (f : Nat) : Int := if fcls f = 2 then (fexp f : Int) - 1075 else if fcls f = 1 then -1074 else 0
def fkey (f : Nat) : Int := if fneg f then -((f % 9223372036854775808 : Nat) : Int) else ((f % 9223372036854775808 : Nat) : Int)
theorem fcls_le (f : Nat) : fcls f ≤ 4 := by unfold fcls; split <;> (try split) <;> (try split) <;> omega
theorem shr52 (f : Nat) : ((f : Int).fdiv (2 ^ min (Int.toNat 52) IntKind.u64.bits)) = ((f / 4503599627370496 : Nat) : Int) := shr_nat .u64 f 52
theorem shr63 (f : Nat) : ((f : Int).fdiv (2 ^ min (Int.toNat 63) IntKind.u64.bits)) = ((f / 9223372036854775808 : Nat) : Int) := shr_nat .u64 f 63
theorem and52 {f : Nat} (h : isF f) : bitv .and .u64 (f : Int) 4503599627370495 = ((ffrac f : Nat) : Int) := and_mask64 h 52 (by decide)
theorem andexp {f : Nat} (h : isF f) : IntKind.i64.wrap (bitv .and .u64 ((f / 4503599627370496 : Nat) : Int) 2047) = ((fexp f : Nat) : Int) := by
  unfold isF at h
  have := and_mask64 (a := f / 4503599627370496) (by omega) 11 (by decide)
  rw [show ((2047 : Int)) = ((2 ^ 11 - 1 : Nat) : Int) by decide, this]
  unfold fexp
  rw [show 2 ^ 11 = 2048 by decide]
  exact wrap_i64_nat (by omega)
theorem or52 {a : Nat} (h : a < 4503599627370496) : bitv .or .u64 4503599627370496 (a : Int) = ((4503599627370496 + a : Nat) : Int) := by
  have := or_nat (a := 4503599627370496) (b := a) (by decide) (by omega)
  rw [show (4503599627370496 : Int) = ((4503599627370496 : Nat) : Int) by decide, this]
  have h2 := Nat.two_pow_add_eq_or_of_lt (i := 52) (b := a) (by simpa using h) 1
  simp only [Nat.mul_one] at h2
  rw [show (4503599627370496 : Nat) = 2 ^ 52 by decide, h2]
theorem andNot63 {f : Nat} (h : isF f) : bitv .andNot .u64 (f : Int) 9223372036854775808 = ((f % 9223372036854775808 : Nat) : Int) := by
  have e : IntKind.u64.bits = 64 := rfl
  have e2 : (BitVec.ofInt IntKind.u64.bits (f : Int) &&& ~~~(BitVec.ofInt IntKind.u64.bits 9223372036854775808)).toNat = f % 9223372036854775808 := by
    rw [BitVec.toNat_and, bv_nat, BitVec.toNat_not]
    have h3 : (BitVec.ofInt IntKind.u64.bits 9223372036854775808).toNat = 9223372036854775808 := by decide
    rw [h3, e, show 2 ^ 64 - 1 - 9223372036854775808 = 2 ^ 63 - 1 by decide, and_mask, Nat.mod_mod_of_dvd _ (by decide)]
  have e3 : bitv .andNot .u64 (f : Int) 9223372036854775808 = IntKind.u64.wrap ((BitVec.ofInt IntKind.u64.bits (f : Int) &&& ~~~(BitVec.ofInt IntKind.u64.bits 9223372036854775808)).toNat : Int) := rfl
  rw [e3, e2]
  exact wrap_u64_nat (by omega)
end Fly
