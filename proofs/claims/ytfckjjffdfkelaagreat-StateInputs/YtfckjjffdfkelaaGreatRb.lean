/-
  Bits and rounding, in plain Lean. No condition.
-/
import Derived.Test.YtfckjjffdfkelaaGreatSuSd
set_option maxRecDepth 10000
section
namespace Su
open Go Fly
def blen (n : Nat) : Nat := if n = 0 then 0 else n.log2 + 1
theorem blen_of {n k : Nat} (h0 : 2 ^ k ≤ n) (h1 : n < 2 ^ (k + 1)) : blen n = k + 1 := by
 have hn : n ≠ 0 := fun e => by subst e; have := Nat.two_pow_pos k; omega
 have a := (Nat.le_log2 hn).2 h0
 have b := (Nat.log2_lt hn).2 h1
 simp only [blen, hn, if_false]; omega
theorem blen_ge {n : Nat} (hn : n ≠ 0) : 2 ^ (blen n - 1) ≤ n := by
 simp only [blen, hn, if_false, Nat.add_sub_cancel]
 exact (Nat.le_log2 hn).1 (Nat.le_refl _)
theorem blen_lt (n : Nat) : n < 2 ^ blen n := by
 by_cases hn : n = 0
 · subst hn; decide
 · simp only [blen, hn, if_false]
   exact (Nat.log2_lt hn).1 (by omega)
theorem blen_pos {n : Nat} (hn : n ≠ 0) : 0 < blen n := by simp only [blen, hn, if_false]; omega
theorem blen_le {n k : Nat} : blen n ≤ k ↔ n < 2 ^ k := by
 constructor
 · intro h; exact Nat.lt_of_lt_of_le (blen_lt n) (Nat.pow_le_pow_right (by omega) h)
 · intro h
   by_cases hn : n = 0
   · subst hn; simp [blen]
   · have h1 := blen_ge hn
     have : blen n - 1 < k := by
      refine (Nat.pow_lt_pow_iff_right (a := 2) (by omega)).1 (Nat.lt_of_le_of_lt h1 h)
     have := blen_pos hn; omega
theorem blen_shr {n k : Nat} (h : 2 ^ k ≤ n) : blen n = k + blen (n / 2 ^ k) := by
 have hp := Nat.two_pow_pos k
 have hq : n / 2 ^ k ≠ 0 := by have := Nat.div_pos h hp; omega
 have h1 := blen_ge hq
 have h2 := blen_lt (n / 2 ^ k)
 have h3 := blen_pos hq
 have e := Nat.div_add_mod n (2 ^ k)
 have hm := Nat.mod_lt n hp
 have a1 : 2 ^ (k + (blen (n / 2 ^ k) - 1)) ≤ n := by
  rw [Nat.pow_add]
  calc 2 ^ k * 2 ^ (blen (n / 2 ^ k) - 1) ≤ 2 ^ k * (n / 2 ^ k) := Nat.mul_le_mul_left _ h1
   _ ≤ n := Nat.mul_div_le n _
 have a2 : n < 2 ^ (k + (blen (n / 2 ^ k) - 1) + 1) := by
  have : k + (blen (n / 2 ^ k) - 1) + 1 = k + blen (n / 2 ^ k) := by omega
  rw [this, Nat.pow_add]
  have : 2 ^ k * (n / 2 ^ k + 1) ≤ 2 ^ k * 2 ^ blen (n / 2 ^ k) := Nat.mul_le_mul_left _ h2
  rw [Nat.mul_add] at this
  omega
 rw [blen_of a1 a2]; omega
def cmpI (a b : Nat) : Int := if a < b then -1 else if a = b then 0 else 1
end Su
end
section
namespace Su
open Go Fly
def kM (k : Nat) : Nat := if k / 4503599627370496 = 0 then k % 4503599627370496 else k % 4503599627370496 + 4503599627370496
def kE (k : Nat) : Nat := k / 4503599627370496 - 1
def kV (k : Nat) : Nat := kM k * 2 ^ kE k
def sgN (neg : Bool) : Nat := bif neg then 9223372036854775808 else 0
end Su
end
section
namespace Su
open Go Fly
theorem ofInt_nat (a : Nat) (h : a < 18446744073709551616) : (BitVec.ofInt 64 (a : Int)).toNat = a := by
 simp; omega
theorem bitv_and (a b : Nat) (ha : a < 18446744073709551616) (hb : b < 18446744073709551616) : bitv .and .u64 (a : Int) (b : Int) = ((a &&& b : Nat) : Int) := by
 have h : a &&& b < 2 ^ 64 := Nat.and_lt_two_pow a (by omega)
 show IntKind.u64.wrap (((BitVec.ofInt 64 (a : Int) &&& BitVec.ofInt 64 (b : Int)).toNat : Nat) : Int) = _
 rw [BitVec.toNat_and, ofInt_nat a ha, ofInt_nat b hb]
 exact wu64 (by omega) (by omega)
theorem bitv_or (a b : Nat) (ha : a < 18446744073709551616) (hb : b < 18446744073709551616) : bitv .or .u64 (a : Int) (b : Int) = ((a ||| b : Nat) : Int) := by
 have h : a ||| b < 2 ^ 64 := Nat.or_lt_two_pow (by omega) (by omega)
 show IntKind.u64.wrap (((BitVec.ofInt 64 (a : Int) ||| BitVec.ofInt 64 (b : Int)).toNat : Nat) : Int) = _
 rw [BitVec.toNat_or, ofInt_nat a ha, ofInt_nat b hb]
 exact wu64 (by omega) (by omega)
theorem bitv_xor (a b : Nat) (ha : a < 18446744073709551616) (hb : b < 18446744073709551616) : bitv .xor .u64 (a : Int) (b : Int) = ((a ^^^ b : Nat) : Int) := by
 have h : a ^^^ b < 2 ^ 64 := Nat.xor_lt_two_pow (by omega) (by omega)
 show IntKind.u64.wrap (((BitVec.ofInt 64 (a : Int) ^^^ BitVec.ofInt 64 (b : Int)).toNat : Nat) : Int) = _
 rw [BitVec.toNat_xor, ofInt_nat a ha, ofInt_nat b hb]
 exact wu64 (by omega) (by omega)
theorem bitv_andNot (a b : Nat) (ha : a < 18446744073709551616) (hb : b < 18446744073709551616) : bitv .andNot .u64 (a : Int) (b : Int) = ((a &&& (18446744073709551615 - b) : Nat) : Int) := by
 have h : a &&& (18446744073709551615 - b) < 2 ^ 64 := Nat.and_lt_two_pow a (by omega)
 show IntKind.u64.wrap (((BitVec.ofInt 64 (a : Int) &&& ~~~(BitVec.ofInt 64 (b : Int))).toNat : Nat) : Int) = _
 rw [BitVec.toNat_and, BitVec.toNat_not, ofInt_nat a ha, ofInt_nat b hb]
 have e : 2 ^ 64 - 1 - b = 18446744073709551615 - b := by omega
 rw [e]
 exact wu64 (by omega) (by omega)
theorem and_mask (a k : Nat) : a &&& (2 ^ k - 1) = a % 2 ^ k := Nat.and_two_pow_sub_one_eq_mod a k
theorem or_high {x y r : Nat} (hr : x < 2 ^ r) : y * 2 ^ r ||| x = y * 2 ^ r + x := by
 rw [Nat.mul_comm, Nat.two_pow_add_eq_or_of_lt hr]
theorem or_low {x y r : Nat} (hr : x < 2 ^ r) : x ||| y * 2 ^ r = y * 2 ^ r + x := by rw [Nat.or_comm]; exact or_high hr
theorem bv_mask (a b : Nat) (k : Nat) (hb : b = 2 ^ k - 1) (ha : a < 18446744073709551616) (hk : b < 18446744073709551616) : bitv .and .u64 (a : Int) (b : Int) = ((a % 2 ^ k : Nat) : Int) := by
 rw [bitv_and a b ha hk, hb, and_mask]
theorem bv_sign (a : Nat) (ha : a < 9223372036854775808) : bitv .or .u64 (a : Int) 9223372036854775808 = ((9223372036854775808 + a : Nat) : Int) := by
 have := bitv_or a 9223372036854775808 (by omega) (by omega)
 rw [show ((9223372036854775808 : Nat) : Int) = 9223372036854775808 from rfl] at this
 rw [this]
 have h := or_low (x := a) (y := 1) (r := 63) (by omega)
 rw [show (1 * 2 ^ 63 : Nat) = 9223372036854775808 from rfl] at h
 rw [h]
theorem bv_nosign (a : Nat) (ha : a < 18446744073709551616) : bitv .andNot .u64 (a : Int) 9223372036854775808 = ((a % 9223372036854775808 : Nat) : Int) := by
 have := bitv_andNot a 9223372036854775808 ha (by omega)
 rw [show ((9223372036854775808 : Nat) : Int) = 9223372036854775808 from rfl] at this
 rw [this]
 have h := and_mask a 63
 rw [show (2 ^ 63 - 1 : Nat) = 18446744073709551615 - 9223372036854775808 from rfl, show (2 ^ 63 : Nat) = 9223372036854775808 from rfl] at h
 rw [h]
theorem bv_turn (a : Nat) (ha : a < 18446744073709551616) : bitv .xor .u64 (a : Int) 9223372036854775808 = ((if a < 9223372036854775808 then 9223372036854775808 + a else a % 9223372036854775808 : Nat) : Int) := by
 have := bitv_xor a 9223372036854775808 ha (by omega)
 rw [show ((9223372036854775808 : Nat) : Int) = 9223372036854775808 from rfl] at this
 rw [this]
 congr 1
 split
 · rename_i h
   have h1 := or_low (x := a) (y := 1) (r := 63) (by omega)
   have h2 : a ^^^ 9223372036854775808 = a ||| 9223372036854775808 := by
    apply Nat.eq_of_testBit_eq
    intro i
    rw [Nat.testBit_xor, Nat.testBit_or, show (9223372036854775808 : Nat) = 2 ^ 63 from rfl, Nat.testBit_two_pow]
    by_cases hi : 63 = i
    · subst hi
      have : a.testBit 63 = false := Nat.testBit_lt_two_pow (by omega)
      simp [this]
    · simp [hi]
   rw [h2, show (9223372036854775808 : Nat) = 1 * 2 ^ 63 from rfl, h1]
 · rename_i h
   have hm : a % 9223372036854775808 < 2 ^ 63 := Nat.mod_lt _ (by decide)
   have hb : a = 9223372036854775808 + a % 9223372036854775808 := by omega
   have h1 := or_low (x := a % 9223372036854775808) (y := 1) (r := 63) hm
   generalize a % 9223372036854775808 = c at *
   subst hb
   rw [show (1 * 2 ^ 63 : Nat) = 9223372036854775808 from rfl] at h1
   rw [← h1]
   apply Nat.eq_of_testBit_eq
   intro i
   rw [Nat.testBit_xor, Nat.testBit_or, show (9223372036854775808 : Nat) = 2 ^ 63 from rfl, Nat.testBit_two_pow]
   by_cases hi : 63 = i
   · subst hi
     have : c.testBit 63 = false := Nat.testBit_lt_two_pow hm
     simp [this]
   · simp [hi]
theorem fd_pow (x k : Nat) : Int.fdiv (x : Int) (2 ^ k) = ((x / 2 ^ k : Nat) : Int) := by
 have h : ((2 : Int) ^ k) = ((2 ^ k : Nat) : Int) := by simp
 rw [h, Int.fdiv_eq_ediv_of_nonneg _ (Int.natCast_nonneg _)]; rfl
end Su
end
section
namespace Su
open Go Fly
def bS (f : Nat) : Bool := Nat.ble 9223372036854775808 f
def bK (f : Nat) : Nat := f % 9223372036854775808
def clsK (k : Nat) : Nat := bif Nat.beq k 9218868437227405312 then 3 else bif Nat.ble 9218868437227405313 k then 4 else bif Nat.beq k 0 then 0 else bif Nat.ble 4503599627370496 k then 2 else 1
def nanK (k : Nat) : Bool := Nat.ble 9218868437227405313 k
def finK (k : Nat) : Bool := Nat.ble k 9218868437227405311
def spM (k : Nat) : Nat := bif finK k then kM k else 0
def spE (k : Nat) : Int := bif finK k && !Nat.beq k 0 then (kE k : Int) - 1074 else 0
def keyI (f : Nat) : Int := bif bS f then -(bK f : Int) else (bK f : Int)
def cmpZ (a b : Int) : Int := bif decide (a < b) then -1 else bif decide (b < a) then 1 else 0
def cmpO (a b : Nat) : Bool := !(nanK (bK a) || nanK (bK b))
def cmpC (a b : Nat) : Int := bif nanK (bK a) || nanK (bK b) then 0 else cmpZ (keyI a) (keyI b)
def lessF (a b : Nat) : Bool := cmpO a b && decide (cmpC a b < 0)
def negF (f : Nat) : Nat := bif nanK (bK f) then f else bif bS f then bK f else 9223372036854775808 + f
def absF (f : Nat) : Nat := bif nanK (bK f) then f else bK f
theorem beq_dec (a b : Nat) : Nat.beq a b = decide (a = b) := by
 cases h : Nat.beq a b with
 | true => simp [Nat.eq_of_beq_eq_true h]
 | false => symm; simp; intro e; subst e; simp at h
theorem ble_dec (a b : Nat) : Nat.ble a b = decide (a ≤ b) := by
 cases h : Nat.ble a b with
 | true => have := Nat.le_of_ble_eq_true h; simp [this]
 | false => symm; simp; exact Nat.lt_of_not_le fun e => by rw [Nat.ble_eq_true_of_le e] at h; cases h
theorem cond_dec {α : Type} (p : Prop) [Decidable p] (x y : α) : (bif decide p then x else y) = if p then x else y := by by_cases h : p <;> simp [h]
theorem clsK_eq {e f : Nat} (he : e ≤ 2047) (hf : f < 4503599627370496) : clsK (e * 4503599627370496 + f) = if e = 2047 then (if f = 0 then 3 else 4) else if e = 0 then (if f = 0 then 0 else 1) else 2 := by
 unfold clsK
 simp only [beq_dec, ble_dec, cond_dec]
 (repeat' split) <;> omega
theorem bS_iff {f : Nat} : bS f = true ↔ 9223372036854775808 ≤ f := by unfold bS; rw [Nat.ble_eq]
theorem bS_not {f : Nat} : bS f = false ↔ f < 9223372036854775808 := by
 cases h : bS f with
 | true => have := bS_iff.1 h; simp; omega
 | false => simp; refine Nat.lt_of_not_le fun h' => ?_; rw [bS_iff.2 h'] at h; cases h
theorem nanK_iff {k : Nat} : nanK k = true ↔ 9218868437227405313 ≤ k := by unfold nanK; rw [Nat.ble_eq]
theorem nanK_not {k : Nat} : nanK k = false ↔ k ≤ 9218868437227405312 := by
 cases h : nanK k with
 | true => have := nanK_iff.1 h; simp; omega
 | false => simp; refine Nat.le_of_lt_succ (Nat.lt_of_not_le fun h' => ?_); rw [nanK_iff.2 h'] at h; cases h
theorem finK_iff {k : Nat} : finK k = true ↔ k ≤ 9218868437227405311 := by unfold finK; rw [Nat.ble_eq]
theorem finK_not {k : Nat} : finK k = false ↔ 9218868437227405312 ≤ k := by
 cases h : finK k with
 | true => have := finK_iff.1 h; simp; omega
 | false => simp; refine Nat.le_of_not_lt fun h' => ?_; rw [finK_iff.2 (by omega)] at h; cases h
theorem bK_lt (f : Nat) : bK f < 9223372036854775808 := Nat.mod_lt _ (by decide)
theorem bB {b : Bool} {p : Prop} [Decidable p] (h : b = true ↔ p) : decide p = b := by
 cases b <;> simp_all
theorem asN64 {f : Int} (h : inR .u64 f = true) : ∃ n : Nat, f = (n : Int) ∧ n < 18446744073709551616 := by
 have := inR_u64.1 h
 exact ⟨f.toNat, by omega, by omega⟩
theorem clsK_val (k : Nat) : clsK k = if k = 9218868437227405312 then 3 else if 9218868437227405313 ≤ k then 4 else if k = 0 then 0 else if 4503599627370496 ≤ k then 2 else 1 := by
 unfold clsK
 simp only [beq_dec, ble_dec, cond_dec]
theorem nat_eq (a b : Nat) : decide ((a : Int) = (b : Int)) = decide (a = b) := by
 by_cases h : a = b
 · simp [h]
 · rw [decide_eq_false h, decide_eq_false]; omega
theorem cls_is (k c : Nat) : decide (((clsK k : Nat) : Int) = ((c : Nat) : Int)) = decide (clsK k = c) := nat_eq _ _
theorem cls_nan (k : Nat) : decide (((clsK k : Nat) : Int) = 4) = nanK k := by
 refine bB ?_
 rw [nanK_iff, clsK_val]
 (repeat' split) <;> constructor <;> intro h <;> first | omega | (exfalso; omega)
theorem cls_inf (k : Nat) : decide (((clsK k : Nat) : Int) = 3) = Nat.beq k 9218868437227405312 := by
 rw [beq_dec]
 refine bB ?_
 rw [decide_eq_true_iff, clsK_val]
 (repeat' split) <;> constructor <;> intro h <;> first | omega | (exfalso; omega)
theorem cls_zero (k : Nat) : decide (((clsK k : Nat) : Int) = 0) = Nat.beq k 0 := by
 rw [beq_dec]
 refine bB ?_
 rw [decide_eq_true_iff, clsK_val]
 (repeat' split) <;> constructor <;> intro h <;> first | omega | (exfalso; omega)
theorem cls_fin (k : Nat) : (!(decide (((clsK k : Nat) : Int) = 3)) && !(decide (((clsK k : Nat) : Int) = 4))) = finK k := by
 rw [cls_inf, cls_nan]
 cases h : finK k with
 | true =>
  have := finK_iff.1 h
  rw [show nanK k = false from nanK_not.2 (by omega), beq_dec, decide_eq_false (by omega)]; rfl
 | false =>
  have := finK_not.1 h
  by_cases e : k = 9218868437227405312
  · subst e; rfl
  · rw [show nanK k = true from nanK_iff.2 (by omega)]; simp
def maxN (a b : Nat) : Nat := bif nanK (bK a) || nanK (bK b) then 9221120237041090560 else bif lessF a b then b else a
def minN (a b : Nat) : Nat := bif nanK (bK a) || nanK (bK b) then 9221120237041090560 else bif lessF b a then b else a
end Su
end
