/-
  What functions of the program compute, in plain Lean, and that the evaluator finds it.
-/
import Derived.Test.YtnegfdebjikfiaaGreatSuSd
import Derived.Test.YtnegfdebjikfiaaGreatRb
set_option maxRecDepth 10000
section
namespace Su
open Go Fly
set_option linter.unusedVariables false
noncomputable section
def pParts  (f : Int) : Option (Bool × (Int × Int)) :=
  some ((decide (((Int.fdiv f (2 ^ 63)) = 1))), ((Go.IntKind.wrap .i64 (Fly.bitv Go.BinOp.and .u64 (Int.fdiv f (2 ^ 52)) 2047)), (Fly.bitv Go.BinOp.and .u64 f 4503599627370495)))
def pMake  (neg : Bool) (exp : Int) (frac : Int) : Option (Int × Int) :=
  (bif (decide ((exp < 0))) then
  some ((0 : Int), (1 : Int))
 else
  (bif (decide ((2047 < exp))) then
  some ((0 : Int), (1 : Int))
 else
  (bif (decide ((4503599627370495 < frac))) then
  some ((0 : Int), (1 : Int))
 else
  (bif neg then
  some ((Fly.bitv Go.BinOp.or .u64 (Fly.bitv Go.BinOp.or .u64 (Go.IntKind.wrap .u64 ((Go.IntKind.wrap .u64 exp) * (2 ^ 52))) frac) 9223372036854775808), (0 : Int))
 else
  some ((Fly.bitv Go.BinOp.or .u64 (Go.IntKind.wrap .u64 ((Go.IntKind.wrap .u64 exp) * (2 ^ 52))) frac), (0 : Int))))))
def pParts_s (f : Int) : Option (Bool × (Int × Int)) := some (bS f.toNat, ((bK f.toNat / 4503599627370496 : Nat) : Int), ((f.toNat % 4503599627370496 : Nat) : Int))
theorem fd63 (f : Nat) (h : f < 18446744073709551616) : decide (Int.fdiv (f : Int) (2 ^ 63) = 1) = bS f := by
  rw [fd_pow]
  refine bB ?_
  rw [bS_iff]
  constructor
  · intro h; have : f / 2 ^ 63 = 1 := by omega
    rw [this]; rfl
  · intro h; omega
theorem expOf (f : Nat) (h : f < 18446744073709551616) : IntKind.i64.wrap (bitv .and .u64 (Int.fdiv (f : Int) (2 ^ 52)) 2047) = ((bK f / 4503599627370496 : Nat) : Int) := by
  have h1 := bv_mask (f / 2 ^ 52) 2047 11 rfl (by omega) (by omega)
  rw [fd_pow, show (2047 : Int) = ((2047 : Nat) : Int) from rfl, h1]
  unfold bK
  rw [w64 (by omega) (by omega)]
  congr 1; omega
theorem fracOf (f : Nat) (h : f < 18446744073709551616) : bitv .and .u64 (f : Int) 4503599627370495 = ((f % 4503599627370496 : Nat) : Int) := bv_mask f 4503599627370495 52 rfl h (by omega)
theorem pParts_ok (f : Int) (y : Bool × (Int × Int)) (hg : (d1 (cI .u64)).good f) (h : pParts_s f = some y) : pParts f = some y := by
  obtain ⟨n, rfl, hn⟩ := asN64 hg
  have := soi h; subst this
  unfold pParts
  rw [fd63 n hn, expOf n hn, fracOf n hn, Int.toNat_natCast]
def pMake_s (p : Bool × (Int × Int)) : Option (Int × Int) := bif decide (0 ≤ p.2.1) && decide (p.2.1 ≤ 2047) && decide (p.2.2 ≤ 4503599627370495) then some (((sgN p.1 + 4503599627370496 * p.2.1.toNat + p.2.2.toNat : Nat) : Int), 0) else some (0, 1)
theorem pMake_ok (p : Bool × (Int × Int)) (y : Int × Int) (hg : (dc cB (dc (cI .i64) (d1 (cI .u64)))).good p) (h : pMake_s p = some y) : pMake p.1 p.2.1 p.2.2 = some y := by
  obtain ⟨neg, e, fr⟩ := p
  obtain ⟨_, he, hf⟩ := hg
  have he := inR_i64.1 he
  obtain ⟨F, rfl, hF⟩ := asN64 hf
  unfold pMake_s at h
  unfold pMake
  simp only [] at h ⊢
  by_cases h1 : e < 0
  · rw [decide_eq_false (show ¬ (0 : Int) ≤ e by omega)] at h
    rw [decide_eq_true h1]; exact h
  · rw [decide_eq_true (show (0 : Int) ≤ e by omega)] at h
    rw [decide_eq_false h1, cond_false]
    by_cases h2 : 2047 < e
    · rw [decide_eq_false (show ¬ e ≤ 2047 by omega)] at h
      rw [decide_eq_true h2]; exact h
    · rw [decide_eq_true (show e ≤ 2047 by omega)] at h
      rw [decide_eq_false h2, cond_false]
      by_cases h3 : (4503599627370495 : Int) < (F : Int)
      · rw [decide_eq_false (show ¬ (F : Int) ≤ 4503599627370495 by omega)] at h
        rw [decide_eq_true h3]; exact h
      · rw [decide_eq_true (show (F : Int) ≤ 4503599627370495 by omega)] at h
        rw [decide_eq_false h3, cond_false]
        obtain ⟨E, rfl⟩ : ∃ E : Nat, e = (E : Int) := ⟨e.toNat, by omega⟩
        have e1 : IntKind.u64.wrap (E : Int) = (E : Int) := wu64 (by omega) (by omega)
        have e2 : IntKind.u64.wrap ((E : Int) * 2 ^ 52) = ((E * 2 ^ 52 : Nat) : Int) := by
          rw [show (2 : Int) ^ 52 = ((2 ^ 52 : Nat) : Int) from rfl, ← Int.natCast_mul]; exact wu64 (by omega) (by omega)
        have e3 : bitv .or .u64 ((E * 2 ^ 52 : Nat) : Int) (F : Int) = ((E * 2 ^ 52 + F : Nat) : Int) := by
          rw [bitv_or _ _ (by omega) hF, or_high (by omega)]
        rw [e1, e2, e3]
        have h := soi h; subst h
        cases neg with
        | true =>
          rw [cond_true, bv_sign _ (by omega)]
          simp [sgN]; omega
        | false => simp [sgN]; omega
end
end Su
end
section
namespace Su
open Go Fly
set_option linter.unusedVariables false
noncomputable section
def pClass  (f : Int) : Option Int :=
  (bif (decide ((((((Su.bK (Int.toNat f)) / 4503599627370496) : Nat) : Int) = 2047))) then
  (bif (decide ((((((Int.toNat f) % 4503599627370496) : Nat) : Int) = 0))) then
  some 3
 else
  (bif (decide ((((((Su.bK (Int.toNat f)) / 4503599627370496) : Nat) : Int) = 2047))) then
  some 4
 else
  (bif (decide ((((((Su.bK (Int.toNat f)) / 4503599627370496) : Nat) : Int) = 0))) then
  (bif (decide ((((((Int.toNat f) % 4503599627370496) : Nat) : Int) = 0))) then
  some 0
 else
  (bif (decide ((((((Su.bK (Int.toNat f)) / 4503599627370496) : Nat) : Int) = 0))) then
  some 1
 else
  some 2))
 else
  (bif (decide ((((((Su.bK (Int.toNat f)) / 4503599627370496) : Nat) : Int) = 0))) then
  some 1
 else
  some 2))))
 else
  (bif (decide ((((((Su.bK (Int.toNat f)) / 4503599627370496) : Nat) : Int) = 2047))) then
  some 4
 else
  (bif (decide ((((((Su.bK (Int.toNat f)) / 4503599627370496) : Nat) : Int) = 0))) then
  (bif (decide ((((((Int.toNat f) % 4503599627370496) : Nat) : Int) = 0))) then
  some 0
 else
  (bif (decide ((((((Su.bK (Int.toNat f)) / 4503599627370496) : Nat) : Int) = 0))) then
  some 1
 else
  some 2))
 else
  (bif (decide ((((((Su.bK (Int.toNat f)) / 4503599627370496) : Nat) : Int) = 0))) then
  some 1
 else
  some 2))))
def pKey  (f : Int) : Option Int :=
  (bif (decide (((Int.fdiv f (2 ^ 63)) = 1))) then
  some (Go.IntKind.wrap .i64 (0 - (Go.IntKind.wrap .i64 (Fly.bitv Go.BinOp.andNot .u64 f 9223372036854775808))))
 else
  some (Go.IntKind.wrap .i64 (Fly.bitv Go.BinOp.andNot .u64 f 9223372036854775808)))
def pInf  (neg : Bool) : Option Int :=
  some (((((Su.sgN neg) + (4503599627370496 * (Int.toNat 2047))) + (Int.toNat 0)) : Nat) : Int)
def pQuiet  : Option Int :=
  some 9221120237041090560
def pClass_s (f : Int) : Option Int := some (clsK (bK f.toNat) : Int)
theorem pClass_ok (f : Int) (y : Int) (hg : (d1 (cI .u64)).good f) (h : pClass_s f = some y) : pClass f = some y := by
  obtain ⟨n, rfl, hn⟩ := asN64 hg
  have := soi h; subst this
  unfold pClass
  have hk : bK n = bK n / 4503599627370496 * 4503599627370496 + n % 4503599627370496 := by unfold bK; omega
  have he : bK n / 4503599627370496 ≤ 2047 := by have := bK_lt n; omega
  have hf : n % 4503599627370496 < 4503599627370496 := Nat.mod_lt _ (by decide)
  have hc : clsK (bK n) = _ := (congrArg clsK hk).trans (clsK_eq he hf)
  rw [Int.toNat_natCast, hc]
  generalize bK n / 4503599627370496 = e at *
  generalize n % 4503599627370496 = f at *
  rw [show (2047 : Int) = ((2047 : Nat) : Int) from rfl, show (0 : Int) = ((0 : Nat) : Int) from rfl]
  simp only [nat_eq, cond_dec]
  by_cases h1 : e = 2047
  · by_cases h2 : f = 0 <;> simp [h1, h2]
  · by_cases h3 : e = 0
    · by_cases h2 : f = 0 <;> simp [h3, h2]
    · simp [h1, h3]
def pKey_s (f : Int) : Option Int := some (keyI f.toNat)
theorem pKey_ok (f : Int) (y : Int) (hg : (d1 (cI .u64)).good f) (h : pKey_s f = some y) : pKey f = some y := by
  obtain ⟨n, rfl, hn⟩ := asN64 hg
  have := soi h; subst this
  unfold pKey
  have hl := bK_lt n
  rw [fd63 n hn, bv_nosign n hn, Int.toNat_natCast]
  unfold keyI
  rw [show n % 9223372036854775808 = bK n from rfl]
  have e1 : IntKind.i64.wrap (bK n : Int) = (bK n : Int) := w64 (by omega) (by omega)
  rw [e1]
  cases bS n with
  | true => rw [cond_true, cond_true, w64 (by omega) (by omega), Int.zero_sub]
  | false => rfl
def pInf_s (neg : Bool) : Option Int := some ((sgN neg + 9218868437227405312 : Nat) : Int)
theorem pInf_ok (neg : Bool) (y : Int) (hg : (d1 cB).good neg) (h : pInf_s neg = some y) : pInf neg = some y := by
  have := soi h; subst this
  cases neg <;> rfl
end
end Su
end
section
namespace Su
open Go Fly
set_option linter.unusedVariables false
noncomputable section
def pSplit  (f : Int) : Option (Int × Int) :=
  (bif (decide (((((Su.clsK (Su.bK (Int.toNat f))) : Nat) : Int) = 2))) then
  some ((Fly.bitv Go.BinOp.or .u64 4503599627370496 ((((Int.toNat f) % 4503599627370496) : Nat) : Int)), (Go.IntKind.wrap .i64 (((((Su.bK (Int.toNat f)) / 4503599627370496) : Nat) : Int) - 1075)))
 else
  (bif (decide (((((Su.clsK (Su.bK (Int.toNat f))) : Nat) : Int) = 1))) then
  some (((((Int.toNat f) % 4503599627370496) : Nat) : Int), (-1074))
 else
  some ((0 : Int), (0 : Int))))
def pNan  (f : Int) : Option Bool :=
  some (decide (((((Su.clsK (Su.bK (Int.toNat f))) : Nat) : Int) = 4)))
def pSplit_s (f : Int) : Option (Int × Int) := some ((spM (bK f.toNat) : Int), spE (bK f.toNat))
theorem pSplit_ok (f : Int) (y : Int × Int) (hg : (d1 (cI .u64)).good f) (h : pSplit_s f = some y) : pSplit f = some y := by
  obtain ⟨n, rfl, hn⟩ := asN64 hg
  have := soi h; subst this
  unfold pSplit
  rw [Int.toNat_natCast]
  have hk : bK n % 4503599627370496 = n % 4503599627370496 := by unfold bK; omega
  have hl := bK_lt n
  rw [← hk]
  generalize bK n = k at *
  have h2 : decide (((clsK k : Nat) : Int) = 2) = decide (4503599627370496 ≤ k ∧ k ≤ 9218868437227405311) := by
    rw [show (2 : Int) = ((2 : Nat) : Int) from rfl, cls_is, clsK_val]
    (repeat' split) <;> simp <;> omega
  have h1 : decide (((clsK k : Nat) : Int) = 1) = decide (0 < k ∧ k < 4503599627370496) := by
    rw [show (1 : Int) = ((1 : Nat) : Int) from rfl, cls_is, clsK_val]
    (repeat' split) <;> simp <;> omega
  rw [h2, h1]
  unfold spM spE
  by_cases c2 : 4503599627370496 ≤ k ∧ k ≤ 9218868437227405311
  · have hf : finK k = true := finK_iff.2 (by omega)
    have e1 : bitv .or .u64 4503599627370496 ((k % 4503599627370496 : Nat) : Int) = ((kM k : Nat) : Int) := by
      have := bitv_or 4503599627370496 (k % 4503599627370496) (by omega) (by omega)
      rw [show ((4503599627370496 : Nat) : Int) = 4503599627370496 from rfl] at this
      rw [this]
      have h3 := or_high (x := k % 4503599627370496) (y := 1) (r := 52) (by omega)
      rw [show (1 * 2 ^ 52 : Nat) = 4503599627370496 from rfl] at h3
      rw [h3]; unfold kM; rw [if_neg (by omega)]; omega
    rw [decide_eq_true c2, cond_true, e1, hf, w64 (by omega) (by omega), beq_dec, decide_eq_false (by omega)]
    simp only [cond_true, Bool.not_false, Bool.and_self]
    unfold kE
    congr 2; omega
  · rw [decide_eq_false c2, cond_false]
    by_cases c1 : 0 < k ∧ k < 4503599627370496
    · have hf : finK k = true := finK_iff.2 (by omega)
      rw [decide_eq_true c1, cond_true, hf, beq_dec, decide_eq_false (by omega)]
      simp only [cond_true, Bool.not_false, Bool.and_self]
      unfold kE kM
      rw [if_pos (by omega), show k / 4503599627370496 = 0 by omega]; rfl
    · rw [decide_eq_false c1, cond_false]
      by_cases c0 : k = 0
      · subst c0; rfl
      · have hf : finK k = false := finK_not.2 (by omega)
        rw [hf]; rfl
def pNan_s (f : Int) : Option Bool := some (nanK (bK f.toNat))
theorem pNan_ok (f : Int) (y : Bool) (hg : (d1 (cI .u64)).good f) (h : pNan_s f = some y) : pNan f = some y := by
  have := soi h; subst this
  unfold pNan
  rw [cls_nan]
end
end Su
end
section
namespace Su
open Go Fly
set_option linter.unusedVariables false
noncomputable section
def pCmp  (a : Int) (b : Int) : Option (Int × Bool) :=
  (bif (Su.nanK (Su.bK (Int.toNat a))) then
  some ((0 : Int), false)
 else
  (bif (Su.nanK (Su.bK (Int.toNat b))) then
  some ((0 : Int), false)
 else
  (bif (decide (((Su.keyI (Int.toNat a)) < (Su.keyI (Int.toNat b))))) then
  some ((-1), true)
 else
  (bif (decide (((Su.keyI (Int.toNat b)) < (Su.keyI (Int.toNat a))))) then
  some ((1 : Int), true)
 else
  some ((0 : Int), true)))))
def pNeg  (f : Int) : Option Int :=
  (bif (Su.nanK (Su.bK (Int.toNat f))) then
  some f
 else
  some (Fly.bitv Go.BinOp.xor .u64 f 9223372036854775808))
def pAbs  (f : Int) : Option Int :=
  (bif (Su.nanK (Su.bK (Int.toNat f))) then
  some f
 else
  some (Fly.bitv Go.BinOp.andNot .u64 f 9223372036854775808))
def pCmp_s (p : Int × Int) : Option (Int × Bool) := some (cmpC p.1.toNat p.2.toNat, cmpO p.1.toNat p.2.toNat)
def pNeg_s (f : Int) : Option Int := some (negF f.toNat : Int)
def pAbs_s (f : Int) : Option Int := some (absF f.toNat : Int)
theorem pCmp_ok (p : Int × Int) (y : Int × Bool) (hg : (dc (cI .u64) (d1 (cI .u64))).good p) (h : pCmp_s p = some y) : pCmp p.1 p.2 = some y := by
  obtain ⟨a, b⟩ := p
  have := soi h; subst this
  unfold pCmp cmpC cmpO cmpZ
  cases nanK (bK a.toNat) with
  | true => rfl
  | false =>
    cases nanK (bK b.toNat) with
    | true => rfl
    | false =>
      simp only [cond_false, Bool.or_false]
      cases decide (keyI a.toNat < keyI b.toNat) with
      | true => rfl
      | false => cases decide (keyI b.toNat < keyI a.toNat) <;> rfl
theorem pNeg_ok (f : Int) (y : Int) (hg : (d1 (cI .u64)).good f) (h : pNeg_s f = some y) : pNeg f = some y := by
  obtain ⟨n, rfl, hn⟩ := asN64 hg
  have := soi h; subst this
  unfold pNeg negF
  rw [Int.toNat_natCast, bv_turn n hn]
  cases nanK (bK n) with
  | true => rfl
  | false =>
    rw [cond_false, cond_false]
    cases hs : bS n with
    | true =>
      have := bS_iff.1 hs
      rw [if_neg (by omega), cond_true]; rfl
    | false =>
      have := bS_not.1 hs
      rw [if_pos (by omega), cond_false]
theorem pAbs_ok (f : Int) (y : Int) (hg : (d1 (cI .u64)).good f) (h : pAbs_s f = some y) : pAbs f = some y := by
  obtain ⟨n, rfl, hn⟩ := asN64 hg
  have := soi h; subst this
  unfold pAbs absF
  rw [Int.toNat_natCast, bv_nosign n hn]
  cases nanK (bK n) <;> rfl
end
end Su
end
section
namespace Su
open Go Fly
set_option linter.unusedVariables false
noncomputable section
def pLess  (a : Int) (b : Int) : Option Bool :=
  (bif (Su.cmpO (Int.toNat a) (Int.toNat b)) then
  some (decide (((Su.cmpC (Int.toNat a) (Int.toNat b)) < 0)))
 else
  some false)
def pLess_s (p : Int × Int) : Option Bool := some (lessF p.1.toNat p.2.toNat)
theorem pLess_ok (p : Int × Int) (y : Bool) (hg : (dc (cI .u64) (d1 (cI .u64))).good p) (h : pLess_s p = some y) : pLess p.1 p.2 = some y := by
  have := soi h; subst this
  unfold pLess lessF
  cases cmpO p.1.toNat p.2.toNat <;> rfl
end
end Su
end
section
namespace Su
open Go Fly
set_option linter.unusedVariables false
noncomputable section
def pMax_l1 : (Int × ((List Int) × (Int × (Int × Unit)))) → Option ((Int × ((List Int) × (Int × (Int × Unit)))) ⊕ (Lp (Int × ((List Int) × (Int × (Int × Unit)))) Int)) := fun p1 => (bif (decide ((p1.2.2.2.1 < p1.2.2.1))) then
  ((Su.idx p1.2.1 p1.2.2.2.1)).bind fun x2 =>
  (bif (Su.nanK (Su.bK (Int.toNat x2))) then
  some (.inr (.ret 9221120237041090560))
 else
  (bif (Su.lessF (Int.toNat p1.1) (Int.toNat x2)) then
  some (.inl (x2, (p1.2.1, (p1.2.2.1, ((Go.IntKind.wrap .i64 (p1.2.2.2.1 + 1)), ())))))
 else
  some (.inl (p1.1, (p1.2.1, (p1.2.2.1, ((Go.IntKind.wrap .i64 (p1.2.2.2.1 + 1)), ())))))))
 else
  some (.inr (.exit 0 (p1.1, (p1.2.1, (p1.2.2.1, (p1.2.2.2.1, ())))))))
def pMax  (fu : Nat) (l : (List Int)) : Option Int :=
  (bif (decide (((((List.length l) : Nat) : Int) = 0))) then
  some 9221120237041090560
 else
  ((Su.idx l 0)).bind fun x0 =>
  (itP fu (pMax_l1) (x0, (l, ((((List.length l) : Nat) : Int), ((0 : Int), ()))))).bind fun x3 =>
  (match x3 with
 | .exit i4 p5 => (bif (Nat.beq i4 0) then
  some p5.1
 else
  none)
 | .ret o6 => some o6))
def pMin_l1 : (Int × ((List Int) × (Int × (Int × Unit)))) → Option ((Int × ((List Int) × (Int × (Int × Unit)))) ⊕ (Lp (Int × ((List Int) × (Int × (Int × Unit)))) Int)) := fun p1 => (bif (decide ((p1.2.2.2.1 < p1.2.2.1))) then
  ((Su.idx p1.2.1 p1.2.2.2.1)).bind fun x2 =>
  (bif (Su.nanK (Su.bK (Int.toNat x2))) then
  some (.inr (.ret 9221120237041090560))
 else
  (bif (Su.lessF (Int.toNat x2) (Int.toNat p1.1)) then
  some (.inl (x2, (p1.2.1, (p1.2.2.1, ((Go.IntKind.wrap .i64 (p1.2.2.2.1 + 1)), ())))))
 else
  some (.inl (p1.1, (p1.2.1, (p1.2.2.1, ((Go.IntKind.wrap .i64 (p1.2.2.2.1 + 1)), ())))))))
 else
  some (.inr (.exit 0 (p1.1, (p1.2.1, (p1.2.2.1, (p1.2.2.2.1, ())))))))
def pMin  (fu : Nat) (l : (List Int)) : Option Int :=
  (bif (decide (((((List.length l) : Nat) : Int) = 0))) then
  some 9221120237041090560
 else
  ((Su.idx l 0)).bind fun x0 =>
  (itP fu (pMin_l1) (x0, (l, ((((List.length l) : Nat) : Int), ((0 : Int), ()))))).bind fun x3 =>
  (match x3 with
 | .exit i4 p5 => (bif (Nat.beq i4 0) then
  some p5.1
 else
  none)
 | .ret o6 => some o6))
def pMax_s (l : List Int) : Option Int := match l with
  | [a, b] => some (maxN a.toNat b.toNat : Int)
  | _ => none
def pMin_s (l : List Int) : Option Int := match l with
  | [a, b] => some (minN a.toNat b.toNat : Int)
  | _ => none
theorem i64_1 : IntKind.i64.wrap (0 + 1) = 1 := by decide
theorem i64_2 : IntKind.i64.wrap (1 + 1) = 2 := by decide
theorem pMax_ok (l : List Int) (y : Int) (hg : (d1 (cQ 2 1)).good l) (h : pMax_s l = some y) : ∃ n, pMax n l = some y := by
  match l, h with
  | [a, b], h =>
    have := soi h; subst this
    obtain ⟨A, rfl, hA⟩ := asN64 (hg.1 a (List.mem_cons_self ..))
    obtain ⟨B, rfl, hB⟩ := asN64 (hg.1 b (List.mem_cons_of_mem _ (List.mem_cons_self ..)))
    refine ⟨3, ?_⟩
    unfold pMax maxN
    have i0 : idx [(A : Int), (B : Int)] 0 = some (A : Int) := rfl
    have i1 : idx [(A : Int), (B : Int)] 1 = some (B : Int) := rfl
    simp only [List.length_cons, List.length_nil, i0, Option.bind_some, itP_s, pMax_l1, Int.toNat_natCast, i64_1]
    have d0 : decide ((((0 + 1 + 1 : Nat) : Int)) = 0) = false := by decide
    have d1 : decide ((0 : Int) < (((0 + 1 + 1 : Nat) : Int))) = true := by decide
    have d2 : decide ((1 : Int) < (((0 + 1 + 1 : Nat) : Int))) = true := by decide
    have d3 : decide ((2 : Int) < (((0 + 1 + 1 : Nat) : Int))) = false := by decide
    rw [d0, d1]
    cases ha : nanK (bK A) with
    | true => rfl
    | false =>
      simp only [cond_true, cond_false, Bool.false_or]
      cases hAA : lessF A A <;> (
        simp only [cond_true, cond_false, Option.bind_some, d2, i1, Int.toNat_natCast]
        cases hb : nanK (bK B) with
        | true => rfl
        | false =>
          simp only [cond_true, cond_false]
          cases hAB : lessF A B <;> (
            simp only [cond_true, cond_false, Option.bind_some, i64_2, d3]
            rfl))
theorem pMin_ok (l : List Int) (y : Int) (hg : (d1 (cQ 2 1)).good l) (h : pMin_s l = some y) : ∃ n, pMin n l = some y := by
  match l, h with
  | [a, b], h =>
    have := soi h; subst this
    obtain ⟨A, rfl, hA⟩ := asN64 (hg.1 a (List.mem_cons_self ..))
    obtain ⟨B, rfl, hB⟩ := asN64 (hg.1 b (List.mem_cons_of_mem _ (List.mem_cons_self ..)))
    refine ⟨3, ?_⟩
    unfold pMin minN
    have i0 : idx [(A : Int), (B : Int)] 0 = some (A : Int) := rfl
    have i1 : idx [(A : Int), (B : Int)] 1 = some (B : Int) := rfl
    simp only [List.length_cons, List.length_nil, i0, Option.bind_some, itP_s, pMin_l1, Int.toNat_natCast, i64_1]
    have d0 : decide ((((0 + 1 + 1 : Nat) : Int)) = 0) = false := by decide
    have d1 : decide ((0 : Int) < (((0 + 1 + 1 : Nat) : Int))) = true := by decide
    have d2 : decide ((1 : Int) < (((0 + 1 + 1 : Nat) : Int))) = true := by decide
    have d3 : decide ((2 : Int) < (((0 + 1 + 1 : Nat) : Int))) = false := by decide
    rw [d0, d1]
    cases ha : nanK (bK A) with
    | true => rfl
    | false =>
      simp only [cond_true, cond_false, Bool.false_or]
      cases hAA : lessF A A <;> (
        simp only [cond_true, cond_false, Option.bind_some, d2, i1, Int.toNat_natCast]
        cases hb : nanK (bK B) with
        | true => rfl
        | false =>
          simp only [cond_true, cond_false]
          cases hAB : lessF B A <;> (
            simp only [cond_true, cond_false, Option.bind_some, i64_2, d3]
            rfl))
end
end Su
end
section
namespace Su
open Go Fly
def valW (a : Int × Int) : Nat := 18446744073709551616 * a.1.toNat + a.2.toNat
theorem valW_def (a : Int × Int) : valW a = a.1.toNat * 18446744073709551616 + a.2.toNat := by unfold valW; rw [Nat.mul_comm]
def hiW (n : Nat) : Int := ((n / 18446744073709551616 % 18446744073709551616 : Nat) : Int)
def loW (n : Nat) : Int := ((n % 18446744073709551616 : Nat) : Int)
noncomputable def subL : {f : Nat → Nat → Nat // ∀ x y, f x y = x + 340282366920938463463374607431768211456 - y} := Classical.choice ⟨⟨_, fun _ _ => rfl⟩⟩
noncomputable def subN (x y : Nat) : Nat := subL.1 x y
theorem subN_eq (x y : Nat) : subN x y = x + 340282366920938463463374607431768211456 - y := subL.2 x y
theorem pw {r : Nat} (hr : r ≤ 64) : 2 ^ (64 - r) * 2 ^ r = 18446744073709551616 := by
  rw [← Nat.pow_add, Nat.sub_add_cancel hr]
theorem shl_core (H L r : Nat) (hr : r ≤ 64) (hL : L < 18446744073709551616) :
    (H * 2 ^ r) % 18446744073709551616 ||| L / 2 ^ (64 - r) = (H * 18446744073709551616 + L) * 2 ^ r / 18446744073709551616 % 18446744073709551616 ∧ L * 2 ^ r % 18446744073709551616 = (H * 18446744073709551616 + L) * 2 ^ r % 18446744073709551616 := by
  have hW := pw hr
  have hR := Nat.two_pow_pos r
  have hQ := Nat.two_pow_pos (64 - r)
  have hx : L / 2 ^ (64 - r) < 2 ^ r := by rw [Nat.div_lt_iff_lt_mul hQ, Nat.mul_comm, hW]; exact hL
  have h1 : H * 2 ^ r % 18446744073709551616 = H % 2 ^ (64 - r) * 2 ^ r := by rw [← hW, Nat.mul_mod_mul_right]
  refine ⟨?_, ?_⟩
  · rw [h1, or_high hx]
    have h2 : (H * 18446744073709551616 + L) * 2 ^ r / 18446744073709551616 = H * 2 ^ r + L / 2 ^ (64 - r) := by
      have : (H * 18446744073709551616 + L) * 2 ^ r = L * 2 ^ r + 18446744073709551616 * (H * 2 ^ r) := by
        rw [Nat.add_mul, Nat.mul_right_comm, Nat.mul_comm (H * 2 ^ r)]; omega
      rw [this, Nat.add_mul_div_left _ _ (by decide)]
      have h3 : L * 2 ^ r / 18446744073709551616 = L / 2 ^ (64 - r) := by rw [← hW, Nat.mul_div_mul_right _ _ hR]
      omega
    rw [h2]
    have h4 := Nat.div_add_mod H (2 ^ (64 - r))
    have h5 : H * 2 ^ r = 18446744073709551616 * (H / 2 ^ (64 - r)) + H % 2 ^ (64 - r) * 2 ^ r := by
      conv => lhs; rw [← h4]
      rw [Nat.add_mul, Nat.mul_right_comm, hW]
    rw [h5, Nat.add_assoc, Nat.mul_add_mod]
    have h6 : H % 2 ^ (64 - r) * 2 ^ r + L / 2 ^ (64 - r) < 18446744073709551616 := by
      have h7 := Nat.mod_lt H hQ
      have h8 : (H % 2 ^ (64 - r) + 1) * 2 ^ r ≤ 2 ^ (64 - r) * 2 ^ r := Nat.mul_le_mul_right _ h7
      rw [hW, Nat.add_mul] at h8
      omega
    rw [Nat.mod_eq_of_lt h6]
  · have : (H * 18446744073709551616 + L) * 2 ^ r = 18446744073709551616 * (H * 2 ^ r) + L * 2 ^ r := by
      rw [Nat.add_mul, Nat.mul_right_comm, Nat.mul_comm (H * 2 ^ r)]
    rw [this, Nat.mul_add_mod]
theorem shr_core (H L r : Nat) (hr : r ≤ 64) (hH : H < 18446744073709551616) (hL : L < 18446744073709551616) :
    H / 2 ^ r = (H * 18446744073709551616 + L) / 2 ^ r / 18446744073709551616 % 18446744073709551616 ∧ L / 2 ^ r ||| (H * 2 ^ (64 - r)) % 18446744073709551616 = (H * 18446744073709551616 + L) / 2 ^ r % 18446744073709551616 ∧
    (L * 2 ^ (64 - r) % 18446744073709551616 = 0 ↔ (H * 18446744073709551616 + L) % 2 ^ r = 0) := by
  have hW : 2 ^ r * 2 ^ (64 - r) = 18446744073709551616 := by rw [Nat.mul_comm]; exact pw hr
  have hR := Nat.two_pow_pos r
  have hQ := Nat.two_pow_pos (64 - r)
  have hx : L / 2 ^ r < 2 ^ (64 - r) := by rw [Nat.div_lt_iff_lt_mul hR, Nat.mul_comm, hW]; exact hL
  have h1 : H * 2 ^ (64 - r) % 18446744073709551616 = H % 2 ^ r * 2 ^ (64 - r) := by rw [← hW, Nat.mul_mod_mul_right]
  have hv : H * 18446744073709551616 + L = L + 2 ^ r * (H * 2 ^ (64 - r)) := by
    rw [← hW, Nat.mul_left_comm, Nat.add_comm]
  have hd : (H * 18446744073709551616 + L) / 2 ^ r = H * 2 ^ (64 - r) + L / 2 ^ r := by
    rw [hv, Nat.add_mul_div_left _ _ hR, Nat.add_comm]
  refine ⟨?_, ?_, ?_⟩
  · rw [Nat.div_div_eq_div_mul, Nat.mul_comm (2 ^ r), ← Nat.div_div_eq_div_mul]
    have : (H * 18446744073709551616 + L) / 18446744073709551616 = H := by omega
    rw [this, Nat.mod_eq_of_lt]
    exact Nat.lt_of_le_of_lt (Nat.div_le_self _ _) hH
  · rw [h1, or_low hx, hd]
    have h4 := Nat.div_add_mod H (2 ^ r)
    have h5 : H * 2 ^ (64 - r) = 18446744073709551616 * (H / 2 ^ r) + H % 2 ^ r * 2 ^ (64 - r) := by
      conv => lhs; rw [← h4]
      rw [Nat.add_mul, Nat.mul_right_comm, hW]
    rw [h5, Nat.add_assoc, Nat.mul_add_mod]
    have h6 : H % 2 ^ r * 2 ^ (64 - r) + L / 2 ^ r < 18446744073709551616 := by
      have h7 := Nat.mod_lt H hR
      have h8 : (H % 2 ^ r + 1) * 2 ^ (64 - r) ≤ 2 ^ r * 2 ^ (64 - r) := Nat.mul_le_mul_right _ h7
      rw [hW, Nat.add_mul] at h8
      omega
    rw [Nat.mod_eq_of_lt h6]
  · have e1 : L * 2 ^ (64 - r) % 18446744073709551616 = L % 2 ^ r * 2 ^ (64 - r) := by rw [← hW, Nat.mul_mod_mul_right]
    have e2 : (H * 18446744073709551616 + L) % 2 ^ r = L % 2 ^ r := by rw [hv, Nat.add_mul_mod_self_left]
    rw [e1, e2]
    constructor
    · intro h
      rcases Nat.mul_eq_zero.1 h with h | h
      · exact h
      · omega
    · intro h; rw [h, Nat.zero_mul]
theorem mul_core (a b : Nat) (ha : a < 18446744073709551616) (hb : b < 18446744073709551616) :
    let x0 := a % 4294967296; let x1 := a / 4294967296; let y0 := b % 4294967296; let y1 := b / 4294967296
    let t := x1 * y0 + x0 * y0 / 4294967296
    let w1 := t % 4294967296 + x0 * y1
    x1 * y1 + t / 4294967296 + w1 / 4294967296 = a * b / 18446744073709551616 ∧ x0 * y0 < 18446744073709551616 ∧ t < 18446744073709551616 ∧ w1 < 18446744073709551616 ∧ x1 * y1 + t / 4294967296 + w1 / 4294967296 < 18446744073709551616 ∧ x1 * y0 < 18446744073709551616 ∧ x0 * y1 < 18446744073709551616 ∧ x1 * y1 + t / 4294967296 < 18446744073709551616 ∧ x1 * y1 < 18446744073709551616 := by
  intro x0 x1 y0 y1 t w1
  have hx0 : x0 ≤ 4294967295 := by omega
  have hx1 : x1 ≤ 4294967295 := by omega
  have hy0 : y0 ≤ 4294967295 := by omega
  have hy1 : y1 ≤ 4294967295 := by omega
  have ha' : a = x1 * 4294967296 + x0 := by omega
  have hb' : b = y1 * 4294967296 + y0 := by omega
  have h00 : x0 * y0 ≤ 4294967295 * 4294967295 := Nat.mul_le_mul hx0 hy0
  have h10 : x1 * y0 ≤ 4294967295 * 4294967295 := Nat.mul_le_mul hx1 hy0
  have h01 : x0 * y1 ≤ 4294967295 * 4294967295 := Nat.mul_le_mul hx0 hy1
  have h11 : x1 * y1 ≤ 4294967295 * 4294967295 := Nat.mul_le_mul hx1 hy1
  have hab : a * b = x1 * y1 * 18446744073709551616 + (x1 * y0 + x0 * y1) * 4294967296 + x0 * y0 := by
    rw [ha', hb', Nat.add_mul, Nat.mul_add, Nat.mul_add]
    have e1 : x1 * 4294967296 * (y1 * 4294967296) = x1 * y1 * 18446744073709551616 := by
      rw [Nat.mul_mul_mul_comm]
    have e2 : x1 * 4294967296 * y0 = x1 * y0 * 4294967296 := Nat.mul_right_comm _ _ _
    have e3 : x0 * (y1 * 4294967296) = x0 * y1 * 4294967296 := (Nat.mul_assoc _ _ _).symm
    rw [e1, e2, e3]
    generalize x1 * y1 = p at *
    generalize x1 * y0 = q at *
    generalize x0 * y1 = s at *
    generalize x0 * y0 = u at *
    omega
  rw [hab]
  show x1 * y1 + (x1 * y0 + x0 * y0 / 4294967296) / 4294967296 + ((x1 * y0 + x0 * y0 / 4294967296) % 4294967296 + x0 * y1) / 4294967296 = _ ∧ x0 * y0 < _ ∧ x1 * y0 + x0 * y0 / 4294967296 < _ ∧ (x1 * y0 + x0 * y0 / 4294967296) % 4294967296 + x0 * y1 < _ ∧ x1 * y1 + (x1 * y0 + x0 * y0 / 4294967296) / 4294967296 + ((x1 * y0 + x0 * y0 / 4294967296) % 4294967296 + x0 * y1) / 4294967296 < _ ∧ x1 * y0 < _ ∧ x0 * y1 < _ ∧ x1 * y1 + (x1 * y0 + x0 * y0 / 4294967296) / 4294967296 < _ ∧ x1 * y1 < _
  generalize x1 * y1 = p at *
  generalize x1 * y0 = q at *
  generalize x0 * y1 = s at *
  generalize x0 * y0 = u at *
  clear ha' hb' hab
  omega
end Su
end
section
namespace Su
open Go Fly
set_option linter.unusedVariables false
noncomputable section
def Len64_t1 : ByteArray := ⟨⟨[0, 1, 2, 2, 3, 3, 3, 3, 4, 4, 4, 4, 4, 4, 4, 4, 5, 5, 5, 5, 5, 5, 5, 5, 5, 5, 5, 5, 5, 5, 5, 5, 6, 6, 6, 6, 6, 6, 6, 6, 6, 6, 6, 6, 6, 6, 6, 6, 6, 6, 6, 6, 6, 6, 6, 6, 6, 6, 6, 6, 6, 6, 6, 6, 7, 7, 7, 7, 7, 7, 7, 7, 7, 7, 7, 7, 7, 7, 7, 7, 7, 7, 7, 7, 7, 7, 7, 7, 7, 7, 7, 7, 7, 7, 7, 7, 7, 7, 7, 7, 7, 7, 7, 7, 7, 7, 7, 7, 7, 7, 7, 7, 7, 7, 7, 7, 7, 7, 7, 7, 7, 7, 7, 7, 7, 7, 7, 7, 8, 8, 8, 8, 8, 8, 8, 8, 8, 8, 8, 8, 8, 8, 8, 8, 8, 8, 8, 8, 8, 8, 8, 8, 8, 8, 8, 8, 8, 8, 8, 8, 8, 8, 8, 8, 8, 8, 8, 8, 8, 8, 8, 8, 8, 8, 8, 8, 8, 8, 8, 8, 8, 8, 8, 8, 8, 8, 8, 8, 8, 8, 8, 8, 8, 8, 8, 8, 8, 8, 8, 8, 8, 8, 8, 8, 8, 8, 8, 8, 8, 8, 8, 8, 8, 8, 8, 8, 8, 8, 8, 8, 8, 8, 8, 8, 8, 8, 8, 8, 8, 8, 8, 8, 8, 8, 8, 8, 8, 8, 8, 8, 8, 8, 8, 8, 8, 8, 8, 8, 8, 8, 8, 8, 8, 8, 8, 8]⟩⟩
def Len64  (x : Int) : Option Int :=
  (bif (decide ((4294967296 ≤ x))) then
  (bif (decide ((65536 ≤ (Int.fdiv x (2 ^ 32))))) then
  (bif (decide ((256 ≤ (Int.fdiv (Int.fdiv x (2 ^ 32)) (2 ^ 16))))) then
  (bif (decide ((0 ≤ (Go.IntKind.wrap .u8 (Int.fdiv (Int.fdiv (Int.fdiv x (2 ^ 32)) (2 ^ 16)) (2 ^ 8)))))) then
  ((Len64_t1)[(Int.toNat (Go.IntKind.wrap .u8 (Int.fdiv (Int.fdiv (Int.fdiv x (2 ^ 32)) (2 ^ 16)) (2 ^ 8))))]?).bind fun x0 =>
  some (Go.IntKind.wrap .i64 ((Go.IntKind.wrap .i64 ((Go.IntKind.wrap .i64 (32 + 16)) + 8)) + (Go.IntKind.wrap .i64 (((UInt8.toNat x0) : Nat) : Int))))
 else
  none)
 else
  (bif (decide ((0 ≤ (Go.IntKind.wrap .u8 (Int.fdiv (Int.fdiv x (2 ^ 32)) (2 ^ 16)))))) then
  ((Len64_t1)[(Int.toNat (Go.IntKind.wrap .u8 (Int.fdiv (Int.fdiv x (2 ^ 32)) (2 ^ 16))))]?).bind fun x1 =>
  some (Go.IntKind.wrap .i64 ((Go.IntKind.wrap .i64 (32 + 16)) + (Go.IntKind.wrap .i64 (((UInt8.toNat x1) : Nat) : Int))))
 else
  none))
 else
  (bif (decide ((256 ≤ (Int.fdiv x (2 ^ 32))))) then
  (bif (decide ((0 ≤ (Go.IntKind.wrap .u8 (Int.fdiv (Int.fdiv x (2 ^ 32)) (2 ^ 8)))))) then
  ((Len64_t1)[(Int.toNat (Go.IntKind.wrap .u8 (Int.fdiv (Int.fdiv x (2 ^ 32)) (2 ^ 8))))]?).bind fun x2 =>
  some (Go.IntKind.wrap .i64 ((Go.IntKind.wrap .i64 (32 + 8)) + (Go.IntKind.wrap .i64 (((UInt8.toNat x2) : Nat) : Int))))
 else
  none)
 else
  (bif (decide ((0 ≤ (Go.IntKind.wrap .u8 (Int.fdiv x (2 ^ 32)))))) then
  ((Len64_t1)[(Int.toNat (Go.IntKind.wrap .u8 (Int.fdiv x (2 ^ 32))))]?).bind fun x3 =>
  some (Go.IntKind.wrap .i64 (32 + (Go.IntKind.wrap .i64 (((UInt8.toNat x3) : Nat) : Int))))
 else
  none)))
 else
  (bif (decide ((65536 ≤ x))) then
  (bif (decide ((256 ≤ (Int.fdiv x (2 ^ 16))))) then
  (bif (decide ((0 ≤ (Go.IntKind.wrap .u8 (Int.fdiv (Int.fdiv x (2 ^ 16)) (2 ^ 8)))))) then
  ((Len64_t1)[(Int.toNat (Go.IntKind.wrap .u8 (Int.fdiv (Int.fdiv x (2 ^ 16)) (2 ^ 8))))]?).bind fun x4 =>
  some (Go.IntKind.wrap .i64 ((Go.IntKind.wrap .i64 ((Go.IntKind.wrap .i64 (0 + 16)) + 8)) + (Go.IntKind.wrap .i64 (((UInt8.toNat x4) : Nat) : Int))))
 else
  none)
 else
  (bif (decide ((0 ≤ (Go.IntKind.wrap .u8 (Int.fdiv x (2 ^ 16)))))) then
  ((Len64_t1)[(Int.toNat (Go.IntKind.wrap .u8 (Int.fdiv x (2 ^ 16))))]?).bind fun x5 =>
  some (Go.IntKind.wrap .i64 ((Go.IntKind.wrap .i64 (0 + 16)) + (Go.IntKind.wrap .i64 (((UInt8.toNat x5) : Nat) : Int))))
 else
  none))
 else
  (bif (decide ((256 ≤ x))) then
  (bif (decide ((0 ≤ (Go.IntKind.wrap .u8 (Int.fdiv x (2 ^ 8)))))) then
  ((Len64_t1)[(Int.toNat (Go.IntKind.wrap .u8 (Int.fdiv x (2 ^ 8))))]?).bind fun x6 =>
  some (Go.IntKind.wrap .i64 ((Go.IntKind.wrap .i64 (0 + 8)) + (Go.IntKind.wrap .i64 (((UInt8.toNat x6) : Nat) : Int))))
 else
  none)
 else
  (bif (decide ((0 ≤ (Go.IntKind.wrap .u8 x)))) then
  ((Len64_t1)[(Int.toNat (Go.IntKind.wrap .u8 x))]?).bind fun x7 =>
  some (Go.IntKind.wrap .i64 (0 + (Go.IntKind.wrap .i64 (((UInt8.toNat x7) : Nat) : Int))))
 else
  none))))
def wMul  (a : Int) (b : Int) : Option (Int × Int) :=
  some ((Go.IntKind.wrap .u64 ((Go.IntKind.wrap .u64 ((Go.IntKind.wrap .u64 ((Int.fdiv a (2 ^ 32)) * (Int.fdiv b (2 ^ 32)))) + (Int.fdiv (Go.IntKind.wrap .u64 ((Go.IntKind.wrap .u64 ((Int.fdiv a (2 ^ 32)) * (Fly.bitv Go.BinOp.and .u64 b 4294967295))) + (Int.fdiv (Go.IntKind.wrap .u64 ((Fly.bitv Go.BinOp.and .u64 a 4294967295) * (Fly.bitv Go.BinOp.and .u64 b 4294967295))) (2 ^ 32)))) (2 ^ 32)))) + (Int.fdiv (Go.IntKind.wrap .u64 ((Fly.bitv Go.BinOp.and .u64 (Go.IntKind.wrap .u64 ((Go.IntKind.wrap .u64 ((Int.fdiv a (2 ^ 32)) * (Fly.bitv Go.BinOp.and .u64 b 4294967295))) + (Int.fdiv (Go.IntKind.wrap .u64 ((Fly.bitv Go.BinOp.and .u64 a 4294967295) * (Fly.bitv Go.BinOp.and .u64 b 4294967295))) (2 ^ 32)))) 4294967295) + (Go.IntKind.wrap .u64 ((Fly.bitv Go.BinOp.and .u64 a 4294967295) * (Int.fdiv b (2 ^ 32)))))) (2 ^ 32)))), (Go.IntKind.wrap .u64 (a * b)))
def wAdd  (a : (Int × Int)) (b : (Int × Int)) : Option ((Int × Int) × Int) :=
  (bif (decide (((Su.extB 0 a.2 b.2 0) ≤ 1))) then
  some (((Su.extA 0 a.1 b.1 (Su.extB 0 a.2 b.2 0)), (Su.extA 0 a.2 b.2 0)), (Su.extB 0 a.1 b.1 (Su.extB 0 a.2 b.2 0)))
 else
  none)
def wSub  (a : (Int × Int)) (b : (Int × Int)) : Option ((Int × Int) × Int) :=
  (bif (decide (((Su.extB 1 a.2 b.2 0) ≤ 1))) then
  some (((Su.extA 1 a.1 b.1 (Su.extB 1 a.2 b.2 0)), (Su.extA 1 a.2 b.2 0)), (Su.extB 1 a.1 b.1 (Su.extB 1 a.2 b.2 0)))
 else
  none)
def Len64_s (x : Int) : Option Int := some (blen x.toNat : Int)
theorem tab64 : ((List.range 256).all fun i => decide ((Len64_t1[i]?).map UInt8.toNat = some (blen i))) = true := by decide +kernel
theorem tab64_at {i : Nat} (h : i < 256) : ∃ b : UInt8, Len64_t1[i]? = some b ∧ b.toNat = blen i := by
  have := List.all_eq_true.1 tab64 i (List.mem_range.2 h)
  have h2 := of_decide_eq_true this
  cases hb : Len64_t1[i]? with
  | none => rw [hb] at h2; cases h2
  | some b => rw [hb] at h2; exact ⟨b, rfl, by simpa using h2⟩
theorem leaf64 {y base : Nat} (hy : y < 256) (hb : base ≤ 64) : (bif decide (0 ≤ IntKind.u8.wrap (y : Int)) then (Len64_t1[(IntKind.u8.wrap (y : Int)).toNat]?).bind fun x0 => some (IntKind.i64.wrap ((base : Int) + IntKind.i64.wrap ((x0.toNat : Nat) : Int))) else none) = some (((base + blen y : Nat)) : Int) := by
  obtain ⟨b, h1, h2⟩ := tab64_at hy
  have h8 : blen y ≤ 8 := blen_le.2 (by simpa using hy)
  rw [wu8 (by omega) (by omega), decide_eq_true (by omega), cond_true, Int.toNat_natCast, h1, Option.bind_some, h2]
  have e : IntKind.i64.wrap ((blen y : Nat) : Int) = ((blen y : Nat) : Int) := w64 (by omega) (by omega)
  rw [e, w64 (by omega) (by omega)]
  rfl
theorem dge (a b : Nat) : decide ((a : Int) ≤ (b : Int)) = Nat.ble a b := by
  rw [ble_dec]
  by_cases h : a ≤ b
  · rw [decide_eq_true h, decide_eq_true]; omega
  · rw [decide_eq_false h, decide_eq_false]; omega
theorem Len64_ok (x y : Int) (hg : (d1 (cI .u64)).good x) (h : Len64_s x = some y) : Len64 x = some y := by
  obtain ⟨n, rfl, hn⟩ := asN64 hg
  have := soi h; subst this
  unfold Len64
  rw [Int.toNat_natCast]
  have hs : ∀ {k : Nat}, 2 ^ k ≤ n → blen n = k + blen (n / 2 ^ k) := fun h => blen_shr h
  have e48 : IntKind.i64.wrap (IntKind.i64.wrap (32 + 16) + 8) = ((56 : Nat) : Int) := by decide
  have e32 : IntKind.i64.wrap (32 + 16) = ((48 : Nat) : Int) := by decide
  have e40 : IntKind.i64.wrap (32 + 8) = ((40 : Nat) : Int) := by decide
  have e24 : IntKind.i64.wrap (IntKind.i64.wrap (0 + 16) + 8) = ((24 : Nat) : Int) := by decide
  have e16 : IntKind.i64.wrap (0 + 16) = ((16 : Nat) : Int) := by decide
  have e8 : IntKind.i64.wrap (0 + 8) = ((8 : Nat) : Int) := by decide
  have c32 : (32 : Int) = ((32 : Nat) : Int) := rfl
  have c0 : (0 : Int) = ((0 : Nat) : Int) := rfl
  have d1 : decide ((4294967296 : Int) ≤ (n : Int)) = Nat.ble 4294967296 n := dge 4294967296 n
  have d2 : ∀ m : Nat, decide ((65536 : Int) ≤ (m : Int)) = Nat.ble 65536 m := fun m => dge 65536 m
  have d3 : ∀ m : Nat, decide ((256 : Int) ≤ (m : Int)) = Nat.ble 256 m := fun m => dge 256 m
  simp only [fd_pow, d1, d2, d3, e48, e40, e24, e8]
  simp only [e32, e16]
  cases h1 : Nat.ble 4294967296 n with
  | true =>
    have b1 := Nat.le_of_ble_eq_true h1
    rw [cond_true]
    cases h2 : Nat.ble 65536 (n / 2 ^ 32) with
    | true =>
      have b2 := Nat.le_of_ble_eq_true h2
      rw [cond_true]
      cases h3 : Nat.ble 256 (n / 2 ^ 32 / 2 ^ 16) with
      | true =>
        have b3 := Nat.le_of_ble_eq_true h3
        rw [cond_true, leaf64 (by omega) (by omega), hs (k := 56) (by omega)]
        congr 3; rw [Nat.div_div_eq_div_mul, Nat.div_div_eq_div_mul]
      | false =>
        have b3 : n / 2 ^ 32 / 2 ^ 16 < 256 := Nat.lt_of_not_le fun e => by rw [Nat.ble_eq_true_of_le e] at h3; cases h3
        rw [cond_false, leaf64 b3 (by omega), hs (k := 48) (by omega)]
        congr 3; rw [Nat.div_div_eq_div_mul]
    | false =>
      have b2 : n / 2 ^ 32 < 65536 := Nat.lt_of_not_le fun e => by rw [Nat.ble_eq_true_of_le e] at h2; cases h2
      rw [cond_false]
      cases h3 : Nat.ble 256 (n / 2 ^ 32) with
      | true =>
        have b3 := Nat.le_of_ble_eq_true h3
        rw [cond_true, leaf64 (by omega) (by omega), hs (k := 40) (by omega)]
        congr 3; rw [Nat.div_div_eq_div_mul]
      | false =>
        have b3 : n / 2 ^ 32 < 256 := Nat.lt_of_not_le fun e => by rw [Nat.ble_eq_true_of_le e] at h3; cases h3
        rw [cond_false, c32, leaf64 b3 (by omega), hs (k := 32) (by omega)]
  | false =>
    have b1 : n < 4294967296 := Nat.lt_of_not_le fun e => by rw [Nat.ble_eq_true_of_le e] at h1; cases h1
    rw [cond_false]
    cases h2 : Nat.ble 65536 n with
    | true =>
      have b2 := Nat.le_of_ble_eq_true h2
      rw [cond_true]
      cases h3 : Nat.ble 256 (n / 2 ^ 16) with
      | true =>
        have b3 := Nat.le_of_ble_eq_true h3
        rw [cond_true, leaf64 (by omega) (by omega), hs (k := 24) (by omega)]
        congr 3; rw [Nat.div_div_eq_div_mul]
      | false =>
        have b3 : n / 2 ^ 16 < 256 := Nat.lt_of_not_le fun e => by rw [Nat.ble_eq_true_of_le e] at h3; cases h3
        rw [cond_false, leaf64 b3 (by omega), hs (k := 16) (by omega)]
    | false =>
      have b2 : n < 65536 := Nat.lt_of_not_le fun e => by rw [Nat.ble_eq_true_of_le e] at h2; cases h2
      rw [cond_false]
      cases h3 : Nat.ble 256 n with
      | true =>
        have b3 := Nat.le_of_ble_eq_true h3
        rw [cond_true, leaf64 (by omega) (by omega), hs (k := 8) (by omega)]
      | false =>
        have b3 : n < 256 := Nat.lt_of_not_le fun e => by rw [Nat.ble_eq_true_of_le e] at h3; cases h3
        rw [cond_false]
        have := leaf64 (base := 0) b3 (by omega)
        rw [Nat.zero_add] at this
        exact this
def wMul_s (p : Int × Int) : Option (Int × Int) := some (hiW (p.1.toNat * p.2.toNat), loW (p.1.toNat * p.2.toNat))
theorem wMul_ok (p : Int × Int) (y : Int × Int) (hg : (dc (cI .u64) (d1 (cI .u64))).good p) (h : wMul_s p = some y) : wMul p.1 p.2 = some y := by
  obtain ⟨a, b⟩ := p
  obtain ⟨A, rfl, hA⟩ := asN64 hg.1
  obtain ⟨B, rfl, hB⟩ := asN64 hg.2
  have := soi h; subst this
  unfold wMul
  simp only [Int.toNat_natCast]
  have m1 : ∀ X : Nat, X < 18446744073709551616 → bitv .and .u64 (X : Int) 4294967295 = ((X % 4294967296 : Nat) : Int) := fun X hX => bv_mask X 4294967295 32 rfl hX (by omega)
  have hc := mul_core A B hA hB
  simp only [] at hc
  obtain ⟨c1, c2, c3, c4, c5, c6, c7, c8, c9⟩ := hc
  have wn : ∀ X : Nat, X < 18446744073709551616 → IntKind.u64.wrap (X : Int) = (X : Int) := fun X hX => wu64 (by omega) (by omega)
  have p32 : ∀ X : Nat, X / 2 ^ 32 = X / 4294967296 := fun X => rfl
  simp only [m1 A hA, m1 B hB, fd_pow, p32, ← Int.natCast_mul]
  rw [wn _ c2, wn _ c6, wn _ c7, wn _ c9]
  simp only [fd_pow, p32, ← Int.natCast_add]
  rw [wn _ c3]
  simp only [m1 _ c3, fd_pow, p32, ← Int.natCast_add]
  rw [wn _ c4, wn _ c8]
  simp only [fd_pow, p32, ← Int.natCast_add]
  rw [wn _ c5, c1]
  unfold hiW loW
  have h1 : A * B / 18446744073709551616 < 18446744073709551616 := by rw [← c1]; exact c5
  rw [Nat.mod_eq_of_lt h1, wrap_u64]
  congr 2
def wAdd_s (p : (Int × Int) × (Int × Int)) : Option ((Int × Int) × Int) := some ((hiW (valW p.1 + valW p.2), loW (valW p.1 + valW p.2)), (((valW p.1 + valW p.2) / 340282366920938463463374607431768211456 : Nat) : Int))
theorem wAdd_ok (p : (Int × Int) × (Int × Int)) (y : (Int × Int) × Int) (hg : (dc cW (d1 cW)).good p) (h : wAdd_s p = some y) : wAdd p.1 p.2 = some y := by
  obtain ⟨⟨a, b⟩, c, d⟩ := p
  obtain ⟨⟨ha, hb⟩, hc, hd⟩ := hg
  obtain ⟨A, rfl, hA⟩ := asN64 ha
  obtain ⟨B, rfl, hB⟩ := asN64 hb
  obtain ⟨C, rfl, hC⟩ := asN64 hc
  obtain ⟨D, rfl, hD⟩ := asN64 hd
  have := soi h; subst this
  unfold wAdd
  have a0 : ∀ x y c : Int, extA 0 x y c = (((x.toNat + y.toNat + c.toNat) % 18446744073709551616 : Nat) : Int) := fun _ _ _ => rfl
  have b0 : ∀ x y c : Int, extB 0 x y c = (((x.toNat + y.toNat + c.toNat) / 18446744073709551616 : Nat) : Int) := fun _ _ _ => rfl
  simp only [a0, b0, valW_def, hiW, loW, Int.toNat_natCast, Int.toNat_zero]
  rw [decide_eq_true (by omega), cond_true]
  congr 2
  · congr 1 <;> congr 1 <;> omega
  · congr 1; omega
noncomputable def wSub_s (p : (Int × Int) × (Int × Int)) : Option ((Int × Int) × Int) := some ((hiW (subN (valW p.1) (valW p.2)), loW (subN (valW p.1) (valW p.2))), bif Nat.blt (valW p.1) (valW p.2) then 1 else 0)
theorem blt_dec (a b : Nat) : Nat.blt a b = decide (a < b) := by
  cases h : Nat.blt a b with
  | true => have : a < b := by rw [Nat.blt_eq] at h; exact h
            simp [this]
  | false => symm; simp; refine Nat.le_of_not_lt fun e => ?_; rw [show Nat.blt a b = true by rw [Nat.blt_eq]; exact e] at h; cases h
theorem wSub_ok (p : (Int × Int) × (Int × Int)) (y : (Int × Int) × Int) (hg : (dc cW (d1 cW)).good p) (h : wSub_s p = some y) : wSub p.1 p.2 = some y := by
  obtain ⟨⟨a, b⟩, c, d⟩ := p
  obtain ⟨⟨ha, hb⟩, hc, hd⟩ := hg
  obtain ⟨A, rfl, hA⟩ := asN64 ha
  obtain ⟨B, rfl, hB⟩ := asN64 hb
  obtain ⟨C, rfl, hC⟩ := asN64 hc
  obtain ⟨D, rfl, hD⟩ := asN64 hd
  have := soi h; subst this
  unfold wSub
  have a1 : ∀ x y c : Int, extA 1 x y c = (((x.toNat + 18446744073709551616 - y.toNat - c.toNat) % 18446744073709551616 : Nat) : Int) := fun _ _ _ => rfl
  have b1 : ∀ x y c : Int, extB 1 x y c = (bif Nat.blt x.toNat (y.toNat + c.toNat) then 1 else 0) := fun _ _ _ => rfl
  simp only [a1, b1, subN_eq, valW_def, hiW, loW, Int.toNat_natCast, Int.toNat_zero, Nat.add_zero, blt_dec, cond_dec]
  by_cases h1 : B < D
  · rw [if_pos h1]
    simp only [Int.toNat_one]
    rw [if_pos (by decide)]
    by_cases h2 : A < C + 1
    · rw [if_pos h2, if_pos (by omega)]
      congr 2
      congr 1 <;> congr 1 <;> omega
    · rw [if_neg h2, if_neg (by omega)]
      congr 2
      congr 1 <;> congr 1 <;> omega
  · rw [if_neg h1]
    simp only [Int.toNat_zero, Nat.add_zero, Nat.sub_zero]
    rw [if_pos (by decide)]
    by_cases h2 : A < C
    · rw [if_pos h2, if_pos (by omega)]
      congr 2
      congr 1 <;> congr 1 <;> omega
    · rw [if_neg h2, if_neg (by omega)]
      congr 2
      congr 1 <;> congr 1 <;> omega
end
end Su
end
