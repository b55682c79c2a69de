/-
  What functions of the program compute, in plain Lean, and that the evaluator finds it.
-/
import Derived.Test.YtnegfdebjikfiaaGreatSuSd
import Derived.Test.YtnegfdebjikfiaaGreatRbs
set_option maxRecDepth 10000
section
namespace Su
open Go Fly
set_option linter.unusedVariables false
noncomputable section
def bMul_l1 : ((List Bool) × ((List Bool) × ((List Bool) × (Int × Unit)))) → Option (((List Bool) × ((List Bool) × ((List Bool) × (Int × Unit)))) ⊕ ((List Bool) × ((List Bool) × ((List Bool) × (Int × Unit))))) := fun p0 => (bif (decide ((p0.2.2.2.1 < (((List.length p0.2.1) : Nat) : Int)))) then
  ((Su.idx p0.2.1 p0.2.2.2.1)).bind fun x1 =>
  (bif x1 then
  ((Su.bShl_s (p0.1, p0.2.2.2.1))).bind fun x2 =>
  ((Su.bAdd_s (p0.2.2.1, x2))).bind fun x3 =>
  some (.inl (p0.1, (p0.2.1, (x3, ((Go.IntKind.wrap .i64 (p0.2.2.2.1 + 1)), ())))))
 else
  some (.inl (p0.1, (p0.2.1, (p0.2.2.1, ((Go.IntKind.wrap .i64 (p0.2.2.2.1 + 1)), ()))))))
 else
  some (.inr (p0.1, (p0.2.1, (p0.2.2.1, (p0.2.2.2.1, ()))))))
def bMul  (fu : Nat) (a : (List Bool)) (b : (List Bool)) : Option (List Bool) :=
  (itP fu (bMul_l1) (a, (b, ([], ((0 : Int), ()))))).bind fun x4 =>
  some x4.2.2.1
def qParts  (f : Int) : Option (Bool × (Int × Int)) :=
  some ((decide (((Go.IntKind.wrap .u64 (Int.tdiv f 9223372036854775808)) = 1))), ((Go.IntKind.wrap .i64 (Int.tmod (Go.IntKind.wrap .u64 (Int.tdiv f 4503599627370496)) 2048)), (Int.tmod f 4503599627370496)))
def qMake  (neg : Bool) (exp : Int) (fr : Int) : Option Int :=
  (bif neg then
  some (Go.IntKind.wrap .u64 ((Go.IntKind.wrap .u64 ((Go.IntKind.wrap .u64 ((Go.IntKind.wrap .u64 exp) * 4503599627370496)) + fr)) + 9223372036854775808))
 else
  some (Go.IntKind.wrap .u64 ((Go.IntKind.wrap .u64 ((Go.IntKind.wrap .u64 exp) * 4503599627370496)) + fr)))
def qClass  (f : Int) : Option Int :=
  (bif (decide (((Go.IntKind.wrap .i64 (Int.tmod (Go.IntKind.wrap .u64 (Int.tdiv f 4503599627370496)) 2048)) = 2047))) then
  (bif (decide (((Int.tmod f 4503599627370496) = 0))) then
  some 3
 else
  (bif (decide (((Go.IntKind.wrap .i64 (Int.tmod (Go.IntKind.wrap .u64 (Int.tdiv f 4503599627370496)) 2048)) = 2047))) then
  some 4
 else
  (bif (decide (((Go.IntKind.wrap .i64 (Int.tmod (Go.IntKind.wrap .u64 (Int.tdiv f 4503599627370496)) 2048)) = 0))) then
  (bif (decide (((Int.tmod f 4503599627370496) = 0))) then
  some 0
 else
  (bif (decide (((Go.IntKind.wrap .i64 (Int.tmod (Go.IntKind.wrap .u64 (Int.tdiv f 4503599627370496)) 2048)) = 0))) then
  some 1
 else
  some 2))
 else
  (bif (decide (((Go.IntKind.wrap .i64 (Int.tmod (Go.IntKind.wrap .u64 (Int.tdiv f 4503599627370496)) 2048)) = 0))) then
  some 1
 else
  some 2))))
 else
  (bif (decide (((Go.IntKind.wrap .i64 (Int.tmod (Go.IntKind.wrap .u64 (Int.tdiv f 4503599627370496)) 2048)) = 2047))) then
  some 4
 else
  (bif (decide (((Go.IntKind.wrap .i64 (Int.tmod (Go.IntKind.wrap .u64 (Int.tdiv f 4503599627370496)) 2048)) = 0))) then
  (bif (decide (((Int.tmod f 4503599627370496) = 0))) then
  some 0
 else
  (bif (decide (((Go.IntKind.wrap .i64 (Int.tmod (Go.IntKind.wrap .u64 (Int.tdiv f 4503599627370496)) 2048)) = 0))) then
  some 1
 else
  some 2))
 else
  (bif (decide (((Go.IntKind.wrap .i64 (Int.tmod (Go.IntKind.wrap .u64 (Int.tdiv f 4503599627370496)) 2048)) = 0))) then
  some 1
 else
  some 2))))
def mulG (a b : List Bool) : Nat → List Bool
  | 0 => []
  | i + 1 => bif tb2 (valB b) i then addB (mulG a b i) (List.replicate i false ++ a) else mulG a b i
def mulB (a b : List Bool) : List Bool := mulG a b b.length
theorem valB_shl (n : Nat) (a : List Bool) : valB (List.replicate n false ++ a) = 2 ^ n * valB a := by rw [valB_app, valB_rep, List.length_replicate]; omega
theorem mulG_len (a b : List Bool) : ∀ i, (mulG a b i).length ≤ a.length + i
  | 0 => by simp [mulG]
  | i + 1 => by
    have ih := mulG_len a b i
    unfold mulG
    cases tb2 (valB b) i with
    | false => rw [cond_false]; omega
    | true =>
      rw [cond_true]
      have := addB_len (mulG a b i) (List.replicate i false ++ a)
      rw [List.length_append, List.length_replicate] at this
      omega
theorem mulG_val (a b : List Bool) : ∀ i, valB (mulG a b i) = valB a * (valB b % 2 ^ i)
  | 0 => by simp [mulG, valB, Nat.mod_one]
  | i + 1 => by
    have ih := mulG_val a b i
    have hb := mod2B (valB b / 2 ^ i)
    rw [Nat.mod_pow_succ (x := valB b) (b := 2) (k := i), hb]
    unfold mulG
    rw [show (valB b / 2 ^ i % 2 == 1) = tb2 (valB b) i from rfl]
    cases tb2 (valB b) i with
    | false => rw [cond_false, Bool.toNat_false, Nat.mul_zero, Nat.add_zero]; exact ih
    | true => rw [cond_true, Bool.toNat_true, Nat.mul_one, addB_val, ih, valB_shl, Nat.mul_add, Nat.mul_comm (2 ^ i)]
theorem mulB_val (a b : List Bool) : valB (mulB a b) = valB a * valB b := by
  unfold mulB
  rw [mulG_val, Nat.mod_eq_of_lt (valB_lt b)]
def bMul_s (p : List Bool × List Bool) : Option (List Bool) := bif Nat.ble (p.1.length + p.2.length + 1) 549755813888 then some (mulB p.1 p.2) else none
theorem bMul_loop {a b : List Bool} (hN : a.length + b.length + 1 ≤ 549755813888) : ∀ k i : Nat, i + k = b.length →
    ∃ f, itP f bMul_l1 (a, (b, (mulG a b i, ((i : Int), ())))) = some (a, (b, (mulG a b b.length, ((b.length : Int), ()))))
  | 0, i, hk => by
    have : i = b.length := by omega
    subst this
    exact it_end (by simp only [bMul_l1]; rw [decide_eq_false (by omega)]; rfl)
  | k + 1, i, hk => by
    refine it_next (s' := (a, (b, (mulG a b (i + 1), (((i + 1 : Nat) : Int), ()))))) ?_ (bMul_loop hN k (i + 1) (by omega))
    have hi : i < b.length := by omega
    have hb : b[i] = tb2 (valB b) i := by
      have := getB b i
      rw [List.getElem?_eq_getElem hi] at this
      exact this
    simp only [bMul_l1]
    rw [decide_eq_true (by omega : (i : Int) < ((b.length : Nat) : Int)), cond_true, idx_nat, List.getElem?_eq_getElem hi, Option.bind_some, hb, w64 (by omega) (by omega)]
    cases h : tb2 (valB b) i with
    | false =>
      rw [cond_false, show mulG a b (i + 1) = mulG a b i by rw [mulG, h]; rfl]; rfl
    | true =>
      rw [cond_true, show mulG a b (i + 1) = addB (mulG a b i) (List.replicate i false ++ a) by rw [mulG, h]; rfl]
      have h1 : bShl_s (a, (i : Int)) = some (List.replicate i false ++ a) := by
        unfold bShl_s
        simp only [Int.toNat_natCast]
        have : Nat.ble (i + a.length) 549755813888 = true := by rw [Nat.ble_eq]; omega
        rw [this]; rfl
      have h2 : bAdd_s (mulG a b i, List.replicate i false ++ a) = some (addB (mulG a b i) (List.replicate i false ++ a)) := by
        unfold bAdd_s
        have hl := mulG_len a b i
        have : Nat.ble (max (mulG a b i).length (List.replicate i false ++ a).length + 1) 549755813888 = true := by rw [Nat.ble_eq, List.length_append, List.length_replicate]; omega
        simp only []
        rw [this]; rfl
      rw [h1, Option.bind_some, h2]; rfl
theorem bMul_ok (p : List Bool × List Bool) (y : List Bool) (hg : (dc (cQ 4 1) (d1 (cQ 4 1))).good p) (h : bMul_s p = some y) : ∃ n, bMul n p.1 p.2 = some y := by
  obtain ⟨a, b⟩ := p
  obtain ⟨hle, h⟩ := bif_some h
  have := soi h; subst this
  have hle := Nat.le_of_ble_eq_true hle
  obtain ⟨f, hf⟩ := bMul_loop (a := a) (b := b) hle b.length 0 (by omega)
  refine ⟨f, ?_⟩
  unfold bMul
  have hf' : itP f bMul_l1 (a, (b, (([] : List Bool), ((0 : Int), ())))) = _ := hf
  rw [hf']; rfl
theorem td_nat (m n : Nat) : Int.tdiv (m : Int) (n : Int) = ((m / n : Nat) : Int) := rfl
theorem tm_nat (m n : Nat) : Int.tmod (m : Int) (n : Int) = ((m % n : Nat) : Int) := rfl
theorem td63 {f : Nat} (h : f < 18446744073709551616) : decide (IntKind.u64.wrap (Int.tdiv (f : Int) 9223372036854775808) = 1) = bS f := by
  rw [show (9223372036854775808 : Int) = ((9223372036854775808 : Nat) : Int) from rfl, td_nat, wu64 (by omega) (by omega)]
  refine bB ?_
  rw [bS_iff]
  constructor
  · intro h; have : f / 9223372036854775808 = 1 := by omega
    rw [this]; rfl
  · intro h; omega
theorem tdE {f : Nat} (h : f < 18446744073709551616) : IntKind.i64.wrap (Int.tmod (IntKind.u64.wrap (Int.tdiv (f : Int) 4503599627370496)) 2048) = ((bK f / 4503599627370496 : Nat) : Int) := by
  rw [show (4503599627370496 : Int) = ((4503599627370496 : Nat) : Int) from rfl, td_nat, wu64 (by omega) (by omega), show (2048 : Int) = ((2048 : Nat) : Int) from rfl, tm_nat, w64 (by omega) (by omega)]
  congr 1
  unfold bK; omega
theorem tmF (f : Nat) : Int.tmod (f : Int) 4503599627370496 = ((bK f % 4503599627370496 : Nat) : Int) := by
  rw [show (4503599627370496 : Int) = ((4503599627370496 : Nat) : Int) from rfl, tm_nat]
  congr 1
  unfold bK; omega
def qParts_s (f : Int) : Option (Bool × (Int × Int)) := some (bS f.toNat, ((bK f.toNat / 4503599627370496 : Nat) : Int), ((bK f.toNat % 4503599627370496 : Nat) : Int))
theorem qParts_ok (f : Int) (y : Bool × (Int × Int)) (hg : (d1 (cI .u64)).good f) (h : qParts_s f = some y) : qParts f = some y := by
  obtain ⟨n, rfl, hn⟩ := asN64 hg
  have := soi h; subst this
  unfold qParts
  rw [td63 hn, tdE hn, tmF, Int.toNat_natCast]
def qMake_s (p : Bool × (Int × Int)) : Option Int := bif decide (0 ≤ p.2.1) && decide (p.2.1 ≤ 2047) && decide (p.2.2 ≤ 4503599627370495) then some ((sgN p.1 + (4503599627370496 * p.2.1.toNat + p.2.2.toNat) : Nat) : Int) else none
theorem qMake_ok (p : Bool × (Int × Int)) (y : Int) (hg : (dc cB (dc (cI .i64) (d1 (cI .u64)))).good p) (h : qMake_s p = some y) : qMake p.1 p.2.1 p.2.2 = some y := by
  obtain ⟨neg, e, fr⟩ := p
  obtain ⟨_, he, hf⟩ := hg
  obtain ⟨F, rfl, hF⟩ := asN64 hf
  obtain ⟨hc, h⟩ := bif_some h
  have := soi h; subst this
  simp only [Bool.and_eq_true, decide_eq_true_eq] at hc
  obtain ⟨⟨h1, h2⟩, h3⟩ := hc
  obtain ⟨E, rfl⟩ : ∃ E : Nat, e = (E : Int) := ⟨e.toNat, by omega⟩
  unfold qMake
  simp only [Int.toNat_natCast]
  rw [wu64 (n := (E : Int)) (by omega) (by omega), wu64 (n := (E : Int) * 4503599627370496) (by omega) (by omega), wu64 (n := (E : Int) * 4503599627370496 + (F : Int)) (by omega) (by omega)]
  unfold sgN
  cases neg with
  | false => simp only [cond_false]; congr 1; omega
  | true =>
    simp only [cond_true]
    rw [wu64 (by omega) (by omega)]; congr 1; omega
def qClass_s (f : Int) : Option Int := some ((clsK (bK f.toNat) : Nat) : Int)
theorem qClass_ok (f : Int) (y : Int) (hg : (d1 (cI .u64)).good f) (h : qClass_s f = some y) : qClass f = some y := by
  obtain ⟨n, rfl, hn⟩ := asN64 hg
  have := soi h; subst this
  unfold qClass
  rw [tdE hn, tmF, Int.toNat_natCast]
  have hk := bK_lt n
  generalize bK n = k at *
  have e : k = k / 4503599627370496 * 4503599627370496 + k % 4503599627370496 := by omega
  have he : k / 4503599627370496 ≤ 2047 := by omega
  have hf : k % 4503599627370496 < 4503599627370496 := by omega
  have hc := clsK_eq he hf
  rw [← e] at hc
  rw [hc]
  generalize k / 4503599627370496 = E at *
  generalize k % 4503599627370496 = F at *
  rw [show (2047 : Int) = ((2047 : Nat) : Int) from rfl, show (0 : Int) = ((0 : Nat) : Int) from rfl, nat_eq, nat_eq, nat_eq]
  by_cases h1 : E = 2047
  · subst h1
    by_cases h2 : F = 0
    · subst h2; rfl
    · simp [h2]
  · by_cases h2 : E = 0
    · subst h2
      by_cases h3 : F = 0
      · subst h3; rfl
      · simp [h3]
    · simp [h1, h2]
end
end Su
end
section
namespace Su
open Go Fly
set_option linter.unusedVariables false
noncomputable section
def qSplit  (f : Int) : Option (Int × Int) :=
  (bif (decide (((((Su.clsK (Su.bK (Int.toNat f))) : Nat) : Int) = 2))) then
  some ((Go.IntKind.wrap .u64 (4503599627370496 + ((((Su.bK (Int.toNat f)) % 4503599627370496) : Nat) : Int))), (Go.IntKind.wrap .i64 (((((Su.bK (Int.toNat f)) / 4503599627370496) : Nat) : Int) - 1075)))
 else
  (bif (decide (((((Su.clsK (Su.bK (Int.toNat f))) : Nat) : Int) = 1))) then
  some (((((Su.bK (Int.toNat f)) % 4503599627370496) : Nat) : Int), (-1074))
 else
  some ((0 : Int), (0 : Int))))
def qFin  (f : Int) : Option Bool :=
  (bif (!(decide (((((Su.clsK (Su.bK (Int.toNat f))) : Nat) : Int) = 3)))) then
  some (!(decide (((((Su.clsK (Su.bK (Int.toNat f))) : Nat) : Int) = 4))))
 else
  some false)
def qKey  (f : Int) : Option Int :=
  (bif (Su.bS (Int.toNat f)) then
  some (Go.IntKind.wrap .i64 (0 - (Go.IntKind.wrap .i64 ((Go.IntKind.wrap .i64 (((((Su.bK (Int.toNat f)) / 4503599627370496) : Nat) : Int) * 4503599627370496)) + (Go.IntKind.wrap .i64 ((((Su.bK (Int.toNat f)) % 4503599627370496) : Nat) : Int))))))
 else
  some (Go.IntKind.wrap .i64 ((Go.IntKind.wrap .i64 (((((Su.bK (Int.toNat f)) / 4503599627370496) : Nat) : Int) * 4503599627370496)) + (Go.IntKind.wrap .i64 ((((Su.bK (Int.toNat f)) % 4503599627370496) : Nat) : Int)))))
def qOf  (k : Int) (neg : Bool) : Option Int :=
  (bif (decide ((k < 0))) then
  ((Su.qMake_s (true, ((Go.IntKind.wrap .i64 (Int.tdiv (Go.IntKind.wrap .i64 (0 - k)) 4503599627370496)), (Go.IntKind.wrap .u64 (Int.tmod (Go.IntKind.wrap .i64 (0 - k)) 4503599627370496)))))).bind fun x0 =>
  some x0
 else
  (bif (decide ((k = 0))) then
  (bif neg then
  ((Su.qMake_s (true, ((Go.IntKind.wrap .i64 (Int.tdiv (Go.IntKind.wrap .i64 (0 - k)) 4503599627370496)), (Go.IntKind.wrap .u64 (Int.tmod (Go.IntKind.wrap .i64 (0 - k)) 4503599627370496)))))).bind fun x1 =>
  some x1
 else
  ((Su.qMake_s (false, ((Go.IntKind.wrap .i64 (Int.tdiv k 4503599627370496)), (Go.IntKind.wrap .u64 (Int.tmod k 4503599627370496)))))).bind fun x2 =>
  some x2)
 else
  ((Su.qMake_s (false, ((Go.IntKind.wrap .i64 (Int.tdiv k 4503599627370496)), (Go.IntKind.wrap .u64 (Int.tmod k 4503599627370496)))))).bind fun x3 =>
  some x3))
def uNeg  (f : Int) : Option Bool :=
  some (decide (((Int.fdiv f (2 ^ 63)) = 1)))
def uIs  (f : Int) (c : Int) : Option Bool :=
  some (decide (((((Su.clsK (Su.bK (Int.toNat f))) : Nat) : Int) = c)))
def uZero  (n : Bool) : Option Int :=
  some ((((Su.sgN n) + ((4503599627370496 * (Int.toNat 0)) + (Int.toNat 0))) : Nat) : Int)
def uInf  (n : Bool) : Option Int :=
  some ((((Su.sgN n) + ((4503599627370496 * (Int.toNat 2047)) + (Int.toNat 0))) : Nat) : Int)
def qSplit_s (f : Int) : Option (Int × Int) := some ((spM (bK f.toNat) : Int), spE (bK f.toNat))
theorem qSplit_ok (f : Int) (y : Int × Int) (hg : (d1 (cI .u64)).good f) (h : qSplit_s f = some y) : qSplit f = some y := by
  obtain ⟨n, rfl, hn⟩ := asN64 hg
  have := soi h; subst this
  unfold qSplit
  rw [Int.toNat_natCast]
  have hk := bK_lt n
  generalize bK n = k at *
  have c2 : decide (((clsK k : Nat) : Int) = 2) = decide (clsK k = 2) := cls_is k 2
  have c1 : decide (((clsK k : Nat) : Int) = 1) = decide (clsK k = 1) := cls_is k 1
  rw [c2, c1, clsK_val]
  unfold spM spE
  by_cases hf : k ≤ 9218868437227405311
  · rw [finK_iff.2 hf, cond_true, if_neg (by omega), if_neg (by omega)]
    by_cases h0 : k = 0
    · subst h0
      rw [if_pos rfl]; rfl
    · have b0 : Nat.beq k 0 = false := beq0 h0
      rw [if_neg h0, b0]
      unfold kM kE
      by_cases h1 : 4503599627370496 ≤ k
      · rw [if_pos h1, if_neg (by omega)]
        have : 1 ≤ k / 4503599627370496 := by omega
        simp only [decide_true, cond_true, Bool.not_false, Bool.and_true]
        rw [wu64 (by omega) (by omega), w64 (by omega) (by omega)]
        congr 2 <;> omega
      · rw [if_neg h1, if_pos (by omega)]
        have : k / 4503599627370496 = 0 := by omega
        rw [this]; rfl
  · rw [finK_not.2 (by omega), cond_false]
    by_cases h1 : k = 9218868437227405312
    · rw [if_pos h1]; rfl
    · rw [if_neg h1, if_pos (by omega)]; rfl
def qFin_s (f : Int) : Option Bool := some (finK (bK f.toNat))
theorem qFin_ok (f : Int) (y : Bool) (hg : (d1 (cI .u64)).good f) (h : qFin_s f = some y) : qFin f = some y := by
  obtain ⟨n, rfl, hn⟩ := asN64 hg
  have := soi h; subst this
  unfold qFin
  rw [Int.toNat_natCast, ← cls_fin]
  cases decide (((clsK (bK n) : Nat) : Int) = 3) <;> rfl
def qKey_s (f : Int) : Option Int := some (keyI f.toNat)
theorem qKey_ok (f : Int) (y : Int) (hg : (d1 (cI .u64)).good f) (h : qKey_s f = some y) : qKey f = some y := by
  obtain ⟨n, rfl, hn⟩ := asN64 hg
  have := soi h; subst this
  unfold qKey keyI
  rw [Int.toNat_natCast]
  have hk := bK_lt n
  generalize bK n = k at *
  have e : IntKind.i64.wrap (IntKind.i64.wrap (((k / 4503599627370496 : Nat) : Int) * 4503599627370496) + IntKind.i64.wrap ((k % 4503599627370496 : Nat) : Int)) = (k : Int) := by
    rw [w64 (n := ((k / 4503599627370496 : Nat) : Int) * 4503599627370496) (by omega) (by omega), w64 (n := ((k % 4503599627370496 : Nat) : Int)) (by omega) (by omega), w64 (by omega) (by omega)]
    omega
  rw [e, w64 (by omega) (by omega)]
  cases bS n
  · rfl
  · simp only [cond_true]; congr 1; omega
def qOf_s (p : Int × Bool) : Option Int := bif decide (-9218868437227405312 ≤ p.1) && decide (p.1 ≤ 9218868437227405312) then some (bif decide (p.1 < 0) || (decide (p.1 = 0) && p.2) then ((9223372036854775808 + p.1.natAbs : Nat) : Int) else ((p.1.natAbs : Nat) : Int)) else none
theorem mk_key {neg : Bool} {k : Nat} (h : k < 9223372036854775808) : qMake_s (neg, (((k / 4503599627370496 : Nat) : Int), ((k % 4503599627370496 : Nat) : Int))) = some ((sgN neg + k : Nat) : Int) := by
  unfold qMake_s
  simp only [Int.toNat_natCast]
  rw [decide_eq_true (by omega), decide_eq_true (by omega), decide_eq_true (by omega)]
  simp only [Bool.and_self, cond_true]
  congr 2; omega
theorem qOf_ok (p : Int × Bool) (y : Int) (hg : (dc (cI .i64) (d1 cB)).good p) (h : qOf_s p = some y) : qOf p.1 p.2 = some y := by
  obtain ⟨k, neg⟩ := p
  obtain ⟨hc, h⟩ := bif_some h
  have := soi h; subst this
  simp only [Bool.and_eq_true, decide_eq_true_eq] at hc
  obtain ⟨h1, h2⟩ := hc
  have pos : ∀ (b : Bool) (K : Nat), K ≤ 9218868437227405312 → qMake_s (b, ((IntKind.i64.wrap (Int.tdiv (K : Int) 4503599627370496)), (IntKind.u64.wrap (Int.tmod (K : Int) 4503599627370496)))) = some ((sgN b + K : Nat) : Int) := fun b K hK => by
    rw [show (4503599627370496 : Int) = ((4503599627370496 : Nat) : Int) from rfl, td_nat, tm_nat, w64 (by omega) (by omega), wu64 (by omega) (by omega)]
    exact mk_key (by omega)
  unfold qOf
  simp only []
  by_cases h3 : k < 0
  · obtain ⟨K, hK⟩ : ∃ K : Nat, k = -(K : Int) := ⟨k.natAbs, by omega⟩
    have e : IntKind.i64.wrap (0 - k) = (K : Int) := by rw [w64 (by omega) (by omega)]; omega
    rw [decide_eq_true h3, cond_true, e, pos true K (by omega)]
    have : k.natAbs = K := by omega
    rw [this]; rfl
  · obtain ⟨K, rfl⟩ : ∃ K : Nat, k = (K : Int) := ⟨k.toNat, by omega⟩
    rw [decide_eq_false h3, cond_false, Int.natAbs_natCast]
    by_cases h4 : K = 0
    · subst h4
      rw [decide_eq_true (by rfl : ((0 : Nat) : Int) = 0), cond_true]
      have e : IntKind.i64.wrap (0 - ((0 : Nat) : Int)) = ((0 : Nat) : Int) := rfl
      cases neg with
      | true => rw [cond_true, e, pos true 0 (by omega)]; rfl
      | false => rw [cond_false, pos false 0 (by omega)]; rfl
    · rw [decide_eq_false (by omega : ¬ (K : Int) = 0), cond_false, pos false K (by omega)]
      simp only [Bool.false_and, Bool.or_self, cond_false, Option.bind_some]
      congr 2; unfold sgN; rw [cond_false]; omega
def uNeg_s (f : Int) : Option Bool := some (bS f.toNat)
theorem uNeg_ok (f : Int) (y : Bool) (hg : (d1 (cI .u64)).good f) (h : uNeg_s f = some y) : uNeg f = some y := by
  obtain ⟨n, rfl, hn⟩ := asN64 hg
  have := soi h; subst this
  unfold uNeg
  rw [fd63 n hn, Int.toNat_natCast]
def uIs_s (p : Int × Int) : Option Bool := some (decide (((clsK (bK p.1.toNat) : Nat) : Int) = p.2))
theorem uIs_ok (p : Int × Int) (y : Bool) (hg : (dc (cI .u64) (d1 (cI .u8))).good p) (h : uIs_s p = some y) : uIs p.1 p.2 = some y := h
def uZero_s (n : Bool) : Option Int := some ((sgN n : Nat) : Int)
theorem uZero_ok (n : Bool) (y : Int) (hg : (d1 cB).good n) (h : uZero_s n = some y) : uZero n = some y := by
  have := soi h; subst this
  cases n <;> rfl
def infN (n : Bool) : Nat := sgN n + 9218868437227405312
def uInf_s (n : Bool) : Option Int := some ((infN n : Nat) : Int)
theorem uInf_ok (n : Bool) (y : Int) (hg : (d1 cB).good n) (h : uInf_s n = some y) : uInf n = some y := by
  have := soi h; subst this
  cases n <;> rfl
end
end Su
end
section
namespace Su
open Go Fly
set_option linter.unusedVariables false
noncomputable section
def qCmp  (a : Int) (b : Int) : Option (Int × Bool) :=
  (bif (decide (((((Su.clsK (Su.bK (Int.toNat a))) : Nat) : Int) = 4))) then
  some ((0 : Int), false)
 else
  (bif (decide (((((Su.clsK (Su.bK (Int.toNat b))) : Nat) : Int) = 4))) then
  some ((0 : Int), false)
 else
  (bif (decide (((Su.keyI (Int.toNat a)) < (Su.keyI (Int.toNat b))))) then
  some ((-1), true)
 else
  (bif (decide (((Su.keyI (Int.toNat b)) < (Su.keyI (Int.toNat a))))) then
  some ((1 : Int), true)
 else
  some ((0 : Int), true)))))
def uBits  (m : Int) : Option (List Bool) :=
  (bif (true && ((true && (decide ((0 ≤ (((Su.blen (Su.valB (List.flatten [(Su.wdB m)]))) : Nat) : Int))))) && (decide (((((Su.blen (Su.valB (List.flatten [(Su.wdB m)]))) : Nat) : Int) ≤ (((List.length (List.flatten [(Su.wdB m)])) : Nat) : Int)))))) then
  some (List.take (Int.toNat ((((Su.blen (Su.valB (List.flatten [(Su.wdB m)]))) : Nat) : Int) - 0)) (List.drop 0 (List.flatten [(Su.wdB m)])))
 else
  none)
def oSplit  (k : Int) : Option ((List Bool) × Int) :=
  (bif (decide (((Int.fdiv k (2 ^ 52)) = 0))) then
  some ((List.flatten [(Su.wdB (Go.IntKind.wrap .u64 (Fly.bitv Go.BinOp.and .i64 k 4503599627370495)))]), (-1074))
 else
  some ((List.flatten [(Su.wdB (Go.IntKind.wrap .u64 ((Go.IntKind.wrap .u64 (Fly.bitv Go.BinOp.and .i64 k 4503599627370495)) + 4503599627370496)))]), (Go.IntKind.wrap .i64 ((Int.fdiv k (2 ^ 52)) - 1075))))
def oCmp  (x : ((List Bool) × ((List Bool) × (Int × Bool)))) (m : (List Bool)) (e : Int) : Option Int :=
  ((Su.bShl_s (x.1, (Go.IntKind.wrap .i64 (x.2.2.1 - (min x.2.2.1 e)))))).bind fun x0 =>
  ((Su.bMul_s (m, x.2.1))).bind fun x1 =>
  ((Su.bShl_s (x1, (Go.IntKind.wrap .i64 (e - (min x.2.2.1 e)))))).bind fun x2 =>
  (bif (decide (((Su.cmpI (Su.valB x0) (Su.valB x2)) = 0))) then
  (bif x.2.2.2 then
  some 1
 else
  some (Su.cmpI (Su.valB x0) (Su.valB x2)))
 else
  some (Su.cmpI (Su.valB x0) (Su.valB x2)))
def qCmp_s (p : Int × Int) : Option (Int × Bool) := some (cmpC p.1.toNat p.2.toNat, cmpO p.1.toNat p.2.toNat)
theorem qCmp_ok (p : Int × Int) (y : Int × Bool) (hg : (dc (cI .u64) (d1 (cI .u64))).good p) (h : qCmp_s p = some y) : qCmp p.1 p.2 = some y := by
  have := soi h; subst this
  unfold qCmp cmpC cmpO cmpZ
  rw [cls_nan, cls_nan]
  cases nanK (bK p.1.toNat)
  · cases nanK (bK p.2.toNat)
    · simp only [cond_false, Bool.or_false, Bool.not_false]
      cases decide (keyI p.1.toNat < keyI p.2.toNat)
      · cases decide (keyI p.2.toNat < keyI p.1.toNat) <;> rfl
      · rfl
    · rfl
  · rfl
theorem take_bits : ∀ (k j n : Nat), j ≤ k → (bitsB k n).take j = bitsB j n
  | _, 0, _, _ => by simp [bitsB]
  | 0, j + 1, _, h => absurd h (by omega)
  | k + 1, j + 1, n, h => by simp only [bitsB, List.take_succ_cons, take_bits k j (n / 2) (by omega)]
theorem wdB_val {m : Nat} (h : m < 18446744073709551616) : valB (wdB (m : Int)) = m := by
  rw [wdB_eq, Int.toNat_natCast, bitsB_val]; exact Nat.mod_eq_of_lt h
theorem wdB_len (m : Int) : (wdB m).length = 64 := by rw [wdB_eq, bitsB_len]
noncomputable def numL : {f : Nat → List Bool // ∀ n, f n = bitsB (blen n) n} := Classical.choice ⟨⟨_, fun _ => rfl⟩⟩
noncomputable def numB (m : Int) : List Bool := numL.1 m.toNat
theorem numB_eq (m : Int) : numB m = bitsB (blen m.toNat) m.toNat := numL.2 _
theorem numB_val (m : Int) : valB (numB m) = m.toNat := by rw [numB_eq, bitsB_val]; exact Nat.mod_eq_of_lt (blen_lt _)
theorem numB_len (m : Int) : (numB m).length = blen m.toNat := by rw [numB_eq, bitsB_len]
noncomputable def uBits_s (m : Int) : Option (List Bool) := some (numB m)
theorem uBits_ok (m : Int) (y : List Bool) (hg : (d1 (cI .u64)).good m) (h : uBits_s m = some y) : uBits m = some y := by
  obtain ⟨n, rfl, hn⟩ := asN64 hg
  have := soi h; subst this
  unfold uBits
  have e : List.flatten [wdB (n : Int)] = wdB (n : Int) := by simp
  have hb : blen n ≤ 64 := blen_le.2 hn
  rw [e, wdB_val hn, wdB_len, decide_eq_true (by omega), decide_eq_true (by omega)]
  simp only [Bool.and_self, cond_true, List.drop_zero]
  rw [numB_eq, wdB_eq, Int.toNat_natCast, show (((blen n : Nat) : Int) - 0).toNat = blen n by omega, take_bits _ _ _ hb]
theorem bv_maskI {a : Nat} (ha : a < 9223372036854775808) : bitv .and .i64 (a : Int) 4503599627370495 = ((a % 4503599627370496 : Nat) : Int) := by
  show IntKind.i64.wrap (((BitVec.ofInt 64 (a : Int) &&& BitVec.ofInt 64 ((4503599627370495 : Nat) : Int)).toNat : Nat) : Int) = _
  have h := and_mask a 52
  rw [show 2 ^ 52 - 1 = 4503599627370495 from rfl, show 2 ^ 52 = 4503599627370496 from rfl] at h
  rw [BitVec.toNat_and, ofInt_nat a (by omega), ofInt_nat _ (by omega), h]
  exact w64 (by omega) (by omega)
noncomputable def oSplit_s (k : Int) : Option (List Bool × Int) := bif decide (0 ≤ k) then some (wdB ((kM k.toNat : Nat) : Int), ((kE k.toNat : Nat) : Int) - 1074) else none
theorem oSplit_ok (k : Int) (y : List Bool × Int) (hg : (d1 (cI .i64)).good k) (h : oSplit_s k = some y) : oSplit k = some y := by
  have hk := inR_i64.1 hg
  obtain ⟨hc, h⟩ := bif_some h
  have := soi h; subst this
  have hc := of_decide_eq_true hc
  obtain ⟨K, rfl⟩ : ∃ K : Nat, k = (K : Int) := ⟨k.toNat, by omega⟩
  have e : ∀ x : Int, List.flatten [wdB x] = wdB x := fun x => by simp
  unfold oSplit kM kE
  rw [e, e, fd_pow, bv_maskI (by omega), Int.toNat_natCast, show (2 : Nat) ^ 52 = 4503599627370496 from rfl, wu64 (n := ((K % 4503599627370496 : Nat) : Int)) (by omega) (by omega), wu64 (by omega) (by omega)]
  by_cases h0 : K / 4503599627370496 = 0
  · rw [decide_eq_true (by omega), if_pos h0, h0]; rfl
  · rw [decide_eq_false (by omega), if_neg h0, cond_false, w64 (by omega) (by omega)]
    congr 2
    omega
def cmpR (rest : Bool) (M N : Nat) : Int := bif decide (cmpI M N = 0) then (bif rest then 1 else cmpI M N) else cmpI M N
def okX (x : List Bool × (List Bool × (Int × Bool))) : Bool := decide (x.1.length ≤ 1000000000) && decide (x.2.1.length ≤ 1000000000) && decide (-100000 ≤ x.2.2.1) && decide (x.2.2.1 ≤ 100000)
def oCmp_s (p : (List Bool × (List Bool × (Int × Bool))) × (List Bool × Int)) : Option Int :=
  bif okX p.1 && (decide (p.2.1.length ≤ 1000000000) && (decide (-100000 ≤ p.2.2) && decide (p.2.2 ≤ 100000))) then
    some (cmpR p.1.2.2.2 (2 ^ (p.1.2.2.1 - min p.1.2.2.1 p.2.2).toNat * valB p.1.1) (2 ^ (p.2.2 - min p.1.2.2.1 p.2.2).toNat * (valB p.2.1 * valB p.1.2.1)))
  else none
theorem shl_some {a : List Bool} {n : Int} (h : n.toNat + a.length ≤ 549755813888) : bShl_s (a, n) = some (List.replicate n.toNat false ++ a) := by
  unfold bShl_s
  have : Nat.ble (n.toNat + a.length) 549755813888 = true := by rw [Nat.ble_eq]; exact h
  simp only []
  rw [this]; rfl
theorem mul_some {a b : List Bool} (h : a.length + b.length + 1 ≤ 549755813888) : bMul_s (a, b) = some (mulB a b) := by
  unfold bMul_s
  have : Nat.ble (a.length + b.length + 1) 549755813888 = true := by rw [Nat.ble_eq]; exact h
  simp only []
  rw [this]; rfl
theorem oCmp_ok (p : (List Bool × (List Bool × (Int × Bool))) × (List Bool × Int)) (y : Int) (hg : (dc (cA (dc (cQ 4 1) (dc (cQ 4 1) (dc (cI .i64) (d1 cB))))) (dc (cQ 4 1) (d1 (cI .i64)))).good p) (h : oCmp_s p = some y) : oCmp p.1 p.2.1 p.2.2 = some y := by
  obtain ⟨⟨A, B, E, rest⟩, m, e⟩ := p
  obtain ⟨hc, h⟩ := bif_some h
  have := soi h; subst this
  simp only [okX, Bool.and_eq_true, decide_eq_true_eq] at hc
  obtain ⟨⟨⟨⟨h1, h2⟩, h3⟩, h4⟩, h5, h6, h7⟩ := hc
  unfold oCmp cmpR
  simp only []
  have hm := mulG_len m B B.length
  rw [w64 (by omega) (by omega), w64 (by omega) (by omega), shl_some (by omega), Option.bind_some, mul_some (by omega), Option.bind_some,
    shl_some (show (e - min E e).toNat + (mulB m B).length ≤ 549755813888 by unfold mulB; omega), Option.bind_some, valB_shl, valB_shl, mulB_val]
  cases decide (cmpI (2 ^ (E - min E e).toNat * valB A) (2 ^ (e - min E e).toNat * (valB m * valB B)) = 0)
  · rfl
  · cases rest <;> rfl
end
end Su
end
section
namespace Su
open Go Fly
set_option linter.unusedVariables false
noncomputable section
def oFloor_l1 : (Int × (Int × ((List Bool) × ((List Bool) × (Int × (Bool × Unit)))))) → Option ((Int × (Int × ((List Bool) × ((List Bool) × (Int × (Bool × Unit)))))) ⊕ (Int × (Int × ((List Bool) × ((List Bool) × (Int × (Bool × Unit))))))) := fun p0 => (bif (decide ((p0.1 < p0.2.1))) then
  ((Su.oSplit_s (Go.IntKind.wrap .i64 (p0.2.1 - (Go.IntKind.wrap .i64 (Int.tdiv (Go.IntKind.wrap .i64 (p0.2.1 - p0.1)) 2)))))).bind fun x1 =>
  ((Su.oCmp_s ((p0.2.2.1, (p0.2.2.2.1, (p0.2.2.2.2.1, p0.2.2.2.2.2.1))), (x1.1, x1.2)))).bind fun x2 =>
  (bif (decide ((0 ≤ x2))) then
  some (.inl ((Go.IntKind.wrap .i64 (p0.2.1 - (Go.IntKind.wrap .i64 (Int.tdiv (Go.IntKind.wrap .i64 (p0.2.1 - p0.1)) 2)))), (p0.2.1, (p0.2.2.1, (p0.2.2.2.1, (p0.2.2.2.2.1, (p0.2.2.2.2.2.1, ())))))))
 else
  some (.inl (p0.1, ((Go.IntKind.wrap .i64 ((Go.IntKind.wrap .i64 (p0.2.1 - (Go.IntKind.wrap .i64 (Int.tdiv (Go.IntKind.wrap .i64 (p0.2.1 - p0.1)) 2)))) - 1)), (p0.2.2.1, (p0.2.2.2.1, (p0.2.2.2.2.1, (p0.2.2.2.2.2.1, ()))))))))
 else
  some (.inr (p0.1, (p0.2.1, (p0.2.2.1, (p0.2.2.2.1, (p0.2.2.2.2.1, (p0.2.2.2.2.2.1, ()))))))))
def oFloor  (fu : Nat) (x : ((List Bool) × ((List Bool) × (Int × Bool)))) : Option Int :=
  (itP fu (oFloor_l1) ((0 : Int), ((9218868437227405312 : Int), (x.1, (x.2.1, (x.2.2.1, (x.2.2.2, ()))))))).bind fun x3 =>
  some x3.1
theorem cmp_mul {F : Nat} (hF : 0 < F) (x y : Nat) : cmpI (x * F) (y * F) = cmpI x y := by
  unfold cmpI
  by_cases h : x < y
  · rw [if_pos h, if_pos (Nat.mul_lt_mul_of_pos_right h hF)]
  · by_cases h' : x = y
    · subst h'; simp
    · rw [if_neg h, if_neg h']
      have : y * F < x * F := Nat.mul_lt_mul_of_pos_right (by omega) hF
      rw [if_neg (by omega), if_neg (by omega)]
theorem cmp_scale {E e : Int} (hE : -6000 ≤ E) (he : -6000 ≤ e) (M N : Nat) : cmpI (2 ^ (E - min E e).toNat * M) (2 ^ (e - min E e).toNat * N) = cmpI (M * 2 ^ (E + 6000).toNat) (N * 2 ^ (e + 6000).toNat) := by
  have h1 : (E + 6000).toNat = (E - min E e).toNat + (min E e + 6000).toNat := by omega
  have h2 : (e + 6000).toNat = (e - min E e).toNat + (min E e + 6000).toNat := by omega
  rw [h1, h2, Nat.pow_add, Nat.pow_add, ← Nat.mul_assoc, ← Nat.mul_assoc, cmp_mul (Nat.two_pow_pos _), Nat.mul_comm M, Nat.mul_comm N]
theorem cmpI_ge {x y : Nat} : 0 ≤ cmpI x y ↔ y ≤ x := by
  unfold cmpI
  by_cases h : x < y
  · rw [if_pos h]; omega
  · by_cases h' : x = y
    · rw [if_neg h, if_pos h']; omega
    · rw [if_neg h, if_neg h']; omega
theorem cmpI_eq0 {x y : Nat} : cmpI x y = 0 ↔ x = y := by
  unfold cmpI
  by_cases h : x < y
  · rw [if_pos h]; omega
  · by_cases h' : x = y
    · rw [if_neg h, if_pos h']; omega
    · rw [if_neg h, if_neg h']; omega
theorem cmpR_ge {rest : Bool} {x y : Nat} : 0 ≤ cmpR rest x y ↔ y ≤ x := by
  unfold cmpR
  by_cases h : cmpI x y = 0
  · rw [decide_eq_true h, cond_true]
    have := cmpI_eq0.1 h
    cases rest with
    | false => rw [cond_false, h]; omega
    | true => rw [cond_true]; omega
  · rw [decide_eq_false h, cond_false]; exact cmpI_ge
theorem kM_lt (k : Nat) : kM k < 9007199254740992 := by unfold kM; split <;> omega
theorem kE_lt {k : Nat} (h : k ≤ 9218868437227405312) : kE k ≤ 2046 := by unfold kE; omega
theorem fl_look {A B : List Bool} {E : Int} {rest : Bool} (hA : A.length ≤ 1000000000) (hB : B.length ≤ 1000000000) (h1 : -5000 ≤ E) (h2 : E ≤ 5000) (hB1 : valB B = 1) {m : Nat} (hm : m < 18446744073709551616) {e : Int} (he1 : -6000 ≤ e) (he2 : e ≤ 5000) :
    oCmp_s ((A, (B, (E, rest))), (wdB (m : Int), e)) = some (cmpR rest (valB A * 2 ^ (E + 6000).toNat) (m * 2 ^ (e + 6000).toNat)) := by
  unfold oCmp_s okX
  simp only []
  have hl : (wdB (m : Int)).length = 64 := wdB_len _
  rw [decide_eq_true hA, decide_eq_true hB, decide_eq_true (show -100000 ≤ E by omega), decide_eq_true (show E ≤ 100000 by omega), decide_eq_true (show (wdB (m : Int)).length ≤ 1000000000 by omega), decide_eq_true (show -100000 ≤ e by omega), decide_eq_true (show e ≤ 100000 by omega)]
  simp only [Bool.and_self, cond_true]
  unfold cmpR
  rw [hB1, Nat.mul_one, wdB_val hm, cmp_scale (by omega) he1]
theorem key_look {A B : List Bool} {E : Int} {rest : Bool} (hA : A.length ≤ 1000000000) (hB : B.length ≤ 1000000000) (h1 : -5000 ≤ E) (h2 : E ≤ 5000) (hB1 : valB B = 1) (hM : valB A ≠ 0) {k : Nat} (hk : k ≤ 9218868437227405312) :
    ∃ c, oCmp_s ((A, (B, (E, rest))), (wdB ((kM k : Nat) : Int), ((kE k : Nat) : Int) - 1074)) = some c ∧ (0 ≤ c ↔ k ≤ floorN (valB A) (E + 6000).toNat) := by
  have hk1 := kM_lt k
  have hk2 := kE_lt hk
  refine ⟨_, fl_look hA hB h1 h2 hB1 (by omega) (by omega) (by omega), ?_⟩
  rw [cmpR_ge, ← key_le hM]
  have : (((kE k : Nat) : Int) - 1074 + 6000).toNat = kE k + SH := by rw [SH_eq]; omega
  rw [this, Nat.pow_add, ← Nat.mul_assoc]
  exact Iff.rfl
def oFloor_s (x : List Bool × (List Bool × (Int × Bool))) : Option Int := bif decide (x.1.length ≤ 1000000000) && decide (x.2.1.length ≤ 1000000000) && decide (-5000 ≤ x.2.2.1) && decide (x.2.2.1 ≤ 5000) && Nat.beq (valB x.2.1) 1 && !Nat.beq (valB x.1) 0 then
  some ((min (floorN (valB x.1) (x.2.2.1 + 6000).toNat) 9218868437227405312 : Nat) : Int) else none
theorem oFloor_loop {A B : List Bool} {E : Int} {rest : Bool} (hA : A.length ≤ 1000000000) (hB : B.length ≤ 1000000000) (h1 : -5000 ≤ E) (h2 : E ≤ 5000) (hB1 : valB B = 1) (hM : valB A ≠ 0) (F : Nat) (hF : F = min (floorN (valB A) (E + 6000).toNat) 9218868437227405312) :
    ∀ (n lo hi : Nat), hi - lo ≤ n → lo ≤ F → F ≤ hi → hi ≤ 9218868437227405312 →
    ∃ f, itP f oFloor_l1 ((lo : Int), ((hi : Int), (A, (B, (E, (rest, ())))))) = some ((F : Int), ((F : Int), (A, (B, (E, (rest, ()))))))
  | 0, lo, hi, hn, hlo, hhi, hb => by
    have e1 : lo = F := by omega
    have e2 : hi = F := by omega
    rw [e1, e2]
    exact it_end (by simp only [oFloor_l1]; rw [decide_eq_false (by omega)]; rfl)
  | n + 1, lo, hi, hn, hlo, hhi, hb => by
    by_cases hlt : lo < hi
    · obtain ⟨k, hk⟩ : ∃ k, k = hi - (hi - lo) / 2 := ⟨_, rfl⟩
      have hk1 : lo < k := by omega
      have hk2 : k ≤ hi := by omega
      obtain ⟨c, hc, hc2⟩ := key_look (rest := rest) hA hB h1 h2 hB1 hM (k := k) (by omega)
      have hw : IntKind.i64.wrap ((hi : Int) - IntKind.i64.wrap (Int.tdiv (IntKind.i64.wrap ((hi : Int) - (lo : Int))) 2)) = (k : Int) := by
        rw [w64 (n := (hi : Int) - (lo : Int)) (by omega) (by omega), show (hi : Int) - (lo : Int) = ((hi - lo : Nat) : Int) by omega, show (2 : Int) = ((2 : Nat) : Int) from rfl, td_nat, w64 (n := (((hi - lo) / 2 : Nat) : Int)) (by omega) (by omega), w64 (by omega) (by omega)]
        omega
      have hs : oSplit_s (k : Int) = some (wdB ((kM k : Nat) : Int), ((kE k : Nat) : Int) - 1074) := by
        unfold oSplit_s
        rw [decide_eq_true (by omega), cond_true, Int.toNat_natCast]
      by_cases hle : k ≤ floorN (valB A) (E + 6000).toNat
      · refine it_next (s' := ((k : Int), ((hi : Int), (A, (B, (E, (rest, ()))))))) ?_ (oFloor_loop hA hB h1 h2 hB1 hM F hF n k hi (by omega) (by omega) hhi hb)
        simp only [oFloor_l1]
        rw [decide_eq_true (by omega : (lo : Int) < (hi : Int)), cond_true, hw, hs, Option.bind_some, hc, Option.bind_some, decide_eq_true (hc2.2 hle)]; rfl
      · refine it_next (s' := ((lo : Int), (((k - 1 : Nat) : Int), (A, (B, (E, (rest, ()))))))) ?_ (oFloor_loop hA hB h1 h2 hB1 hM F hF n lo (k - 1) (by omega) hlo (by omega) (by omega))
        simp only [oFloor_l1]
        rw [decide_eq_true (by omega : (lo : Int) < (hi : Int)), cond_true, hw, hs, Option.bind_some, hc, Option.bind_some, decide_eq_false (fun h => hle (hc2.1 h)), w64 (by omega) (by omega), show (k : Int) - 1 = ((k - 1 : Nat) : Int) by omega]; rfl
    · have e1 : lo = F := by omega
      have e2 : hi = F := by omega
      rw [e1, e2]
      exact it_end (by simp only [oFloor_l1]; rw [decide_eq_false (by omega)]; rfl)
theorem oFloor_ok (x : List Bool × (List Bool × (Int × Bool))) (y : Int) (hg : (d1 (cA (dc (cQ 4 1) (dc (cQ 4 1) (dc (cI .i64) (d1 cB)))))).good x) (h : oFloor_s x = some y) : ∃ n, oFloor n x = some y := by
  obtain ⟨A, B, E, rest⟩ := x
  obtain ⟨hc, h⟩ := bif_some h
  have := soi h; subst this
  simp only [Bool.and_eq_true, decide_eq_true_eq, Bool.not_eq_true'] at hc
  obtain ⟨⟨⟨⟨⟨h1, h2⟩, h3⟩, h4⟩, h5⟩, h6⟩ := hc
  have h5 := Nat.eq_of_beq_eq_true h5
  have h6 : valB A ≠ 0 := fun e => by rw [e] at h6; exact absurd h6 (by decide)
  obtain ⟨f, hf⟩ := oFloor_loop (rest := rest) h1 h2 h3 h4 h5 h6 _ rfl 9218868437227405312 0 9218868437227405312 (by omega) (by omega) (by omega) (by omega)
  refine ⟨f, ?_⟩
  unfold oFloor
  simp only []
  have hf' : itP f oFloor_l1 ((0 : Int), ((9218868437227405312 : Int), (A, (B, (E, (rest, ())))))) = _ := hf
  rw [hf']; rfl
end
end Su
end
section
namespace Su
open Go Fly
set_option linter.unusedVariables false
noncomputable section
def oMag  (x : ((List Bool) × ((List Bool) × (Int × Bool)))) (mode : Int) : Option (Int × Int) :=
  ((Su.oFloor_s (x.1, (x.2.1, (x.2.2.1, x.2.2.2))))).bind fun x0 =>
  ((Su.oSplit_s x0)).bind fun x1 =>
  ((Su.oCmp_s ((x.1, (x.2.1, (x.2.2.1, x.2.2.2))), (x1.1, x1.2)))).bind fun x2 =>
  ((bif (!(decide ((x2 = 0)))) then
  ((Su.oCmp_s ((x.1, (x.2.1, (x.2.2.1, x.2.2.2))), ((List.flatten [(Su.wdB 1)]), (-1022))))).bind fun x3 =>
  ((bif (decide ((x3 < 0))) then
  some (mode, ((Fly.bitv Go.BinOp.or .u8 (Fly.bitv Go.BinOp.or .u8 0 1) 2), (x0, ((decide ((x2 = 0))), ((List.flatten [(Su.wdB 1)]), (x.1, (x.2.1, (x.2.2.1, (x.2.2.2, ())))))))))
 else
  some (mode, ((Fly.bitv Go.BinOp.or .u8 0 1), (x0, ((decide ((x2 = 0))), ((List.flatten [(Su.wdB 1)]), (x.1, (x.2.1, (x.2.2.1, (x.2.2.2, ()))))))))))).bind fun x4 =>
  some (x4.1, (x4.2.1, (x4.2.2.1, (x4.2.2.2.1, (x4.2.2.2.2.1, (x4.2.2.2.2.2.1, (x4.2.2.2.2.2.2.1, (x4.2.2.2.2.2.2.2.1, (x4.2.2.2.2.2.2.2.2.1, ())))))))))
 else
  some (mode, ((0 : Int), (x0, ((decide ((x2 = 0))), ((List.flatten [(Su.wdB 1)]), (x.1, (x.2.1, (x.2.2.1, (x.2.2.2, ()))))))))))).bind fun x5 =>
  ((bif (decide ((x5.1 = 1))) then
  some (x5.1, (x5.2.1, (x5.2.2.1, (x5.2.2.2.1, (x5.2.2.2.2.1, ((!x5.2.2.2.1), (x5.2.2.2.2.2.1, (x5.2.2.2.2.2.2.1, (x5.2.2.2.2.2.2.2.1, (x5.2.2.2.2.2.2.2.2.1, ()))))))))))
 else
  ((bif (!(decide ((x5.1 = 2)))) then
  ((Su.oSplit_s x5.2.2.1)).bind fun x6 =>
  ((bif (decide ((9218868437227405311 < x5.2.2.1))) then
  ((Su.bAdd_s ((Su.wdB ((9007199254740991 : Nat) : Int)), x5.2.2.2.2.1))).bind fun x7 =>
  some (x5.1, (x5.2.1, (x5.2.2.1, (x5.2.2.2.1, (x5.2.2.2.2.1, (false, (x7, ((((2045 : Nat) : Int) - 1074), (x5.2.2.2.2.2.1, (x5.2.2.2.2.2.2.1, (x5.2.2.2.2.2.2.2.1, (x5.2.2.2.2.2.2.2.2.1, ()))))))))))))
 else
  some (x5.1, (x5.2.1, (x5.2.2.1, (x5.2.2.2.1, (x5.2.2.2.2.1, (false, (x6.1, (x6.2, (x5.2.2.2.2.2.1, (x5.2.2.2.2.2.2.1, (x5.2.2.2.2.2.2.2.1, (x5.2.2.2.2.2.2.2.2.1, ())))))))))))))).bind fun x8 =>
  ((Su.bShl_s (x8.2.2.2.2.2.2.1, (1 : Int)))).bind fun x9 =>
  ((Su.bAdd_s (x9, x8.2.2.2.2.1))).bind fun x10 =>
  ((Su.oCmp_s ((x8.2.2.2.2.2.2.2.2.1, (x8.2.2.2.2.2.2.2.2.2.1, (x8.2.2.2.2.2.2.2.2.2.2.1, x8.2.2.2.2.2.2.2.2.2.2.2.1))), (x10, (Go.IntKind.wrap .i64 (x8.2.2.2.2.2.2.2.1 - 1)))))).bind fun x11 =>
  (bif (decide ((0 < x11))) then
  some (x8.1, (x8.2.1, (x8.2.2.1, (x8.2.2.2.1, (x8.2.2.2.2.1, (true, (x8.2.2.2.2.2.2.2.2.1, (x8.2.2.2.2.2.2.2.2.2.1, (x8.2.2.2.2.2.2.2.2.2.2.1, (x8.2.2.2.2.2.2.2.2.2.2.2.1, ()))))))))))
 else
  (bif (decide ((x11 = 0))) then
  some (x8.1, (x8.2.1, (x8.2.2.1, (x8.2.2.2.1, (x8.2.2.2.2.1, ((decide (((Int.tmod x8.2.2.1 2) = 1))), (x8.2.2.2.2.2.2.2.2.1, (x8.2.2.2.2.2.2.2.2.2.1, (x8.2.2.2.2.2.2.2.2.2.2.1, (x8.2.2.2.2.2.2.2.2.2.2.2.1, ()))))))))))
 else
  some (x8.1, (x8.2.1, (x8.2.2.1, (x8.2.2.2.1, (x8.2.2.2.2.1, (false, (x8.2.2.2.2.2.2.2.2.1, (x8.2.2.2.2.2.2.2.2.2.1, (x8.2.2.2.2.2.2.2.2.2.2.1, (x8.2.2.2.2.2.2.2.2.2.2.2.1, ()))))))))))))
 else
  some (x5.1, (x5.2.1, (x5.2.2.1, (x5.2.2.2.1, (x5.2.2.2.2.1, (false, (x5.2.2.2.2.2.1, (x5.2.2.2.2.2.2.1, (x5.2.2.2.2.2.2.2.1, (x5.2.2.2.2.2.2.2.2.1, ())))))))))))).bind fun x12 =>
  some (x12.1, (x12.2.1, (x12.2.2.1, (x12.2.2.2.1, (x12.2.2.2.2.1, (x12.2.2.2.2.2.1, (x12.2.2.2.2.2.2.1, (x12.2.2.2.2.2.2.2.1, (x12.2.2.2.2.2.2.2.2.1, (x12.2.2.2.2.2.2.2.2.2.1, ())))))))))))).bind fun x13 =>
  (bif (decide ((x13.2.2.1 ≤ 9218868437227405311))) then
  ((bif x13.2.2.2.2.2.1 then
  some (x13.1, (x13.2.1, ((Go.IntKind.wrap .i64 (x13.2.2.1 + 1)), (x13.2.2.2.1, (x13.2.2.2.2.1, (x13.2.2.2.2.2.1, (x13.2.2.2.2.2.2.1, (x13.2.2.2.2.2.2.2.1, (x13.2.2.2.2.2.2.2.2.1, (x13.2.2.2.2.2.2.2.2.2.1, ()))))))))))
 else
  some (x13.1, (x13.2.1, (x13.2.2.1, (x13.2.2.2.1, (x13.2.2.2.2.1, (x13.2.2.2.2.2.1, (x13.2.2.2.2.2.2.1, (x13.2.2.2.2.2.2.2.1, (x13.2.2.2.2.2.2.2.2.1, (x13.2.2.2.2.2.2.2.2.2.1, ())))))))))))).bind fun x14 =>
  (bif (decide ((9218868437227405311 < x14.2.2.1))) then
  (bif (decide ((x14.1 = 2))) then
  some ((9218868437227405311 : Int), (Fly.bitv Go.BinOp.or .u8 (Fly.bitv Go.BinOp.or .u8 x14.2.1 4) 1))
 else
  some ((9218868437227405312 : Int), (Fly.bitv Go.BinOp.or .u8 (Fly.bitv Go.BinOp.or .u8 x14.2.1 4) 1)))
 else
  some (x14.2.2.1, x14.2.1))
 else
  (bif (decide ((9218868437227405311 < x13.2.2.1))) then
  (bif (decide ((x13.1 = 2))) then
  some ((9218868437227405311 : Int), (Fly.bitv Go.BinOp.or .u8 (Fly.bitv Go.BinOp.or .u8 x13.2.1 4) 1))
 else
  some ((9218868437227405312 : Int), (Fly.bitv Go.BinOp.or .u8 (Fly.bitv Go.BinOp.or .u8 x13.2.1 4) 1)))
 else
  some (x13.2.2.1, x13.2.1)))
noncomputable def mgL : {f : Int → Nat → Nat → Bool → Nat // ∀ mode M Q rest, f mode M Q rest = finN (twN false mode) (floorN M Q + (upN false mode (keepN M Q % 2 == 1) (hfN M Q) (rest || rsN M Q)).toNat)} := Classical.choice ⟨⟨_, fun _ _ _ _ => rfl⟩⟩
noncomputable def mgK (mode : Int) (M Q : Nat) (rest : Bool) : Nat := mgL.1 mode M Q rest
theorem mgK_eq (mode : Int) (M Q : Nat) (rest : Bool) : mgK mode M Q rest = finN (twN false mode) (floorN M Q + (upN false mode (keepN M Q % 2 == 1) (hfN M Q) (rest || rsN M Q)).toNat) := mgL.2 mode M Q rest
def mf0 (ex un : Bool) : Int := bif !ex then (bif un then (Fly.bitv BinOp.or .u8 (Fly.bitv BinOp.or .u8 0 1) 2) else (Fly.bitv BinOp.or .u8 0 1)) else 0
def mfX (mode : Int) (M Q : Nat) (rest : Bool) : Int :=
  let f0 := mf0 (decide (cmpR rest (M * 2 ^ Q) (kM (min (floorN M Q) 9218868437227405312) * 2 ^ (kE (min (floorN M Q) 9218868437227405312) + SH)) = 0)) (decide (cmpR rest (M * 2 ^ Q) (1 * 2 ^ 4978) < 0))
  bif Nat.ble (floorN M Q + (upN false mode (keepN M Q % 2 == 1) (hfN M Q) (rest || rsN M Q)).toNat) topN then f0 else Fly.bitv BinOp.or .u8 (Fly.bitv BinOp.or .u8 f0 4) 1
noncomputable def mfL : {f : Int → Nat → Nat → Bool → Int // ∀ mode M Q rest, f mode M Q rest = mfX mode M Q rest} := Classical.choice ⟨⟨_, fun _ _ _ _ => rfl⟩⟩
noncomputable def mgF (mode : Int) (M Q : Nat) (rest : Bool) : Int := mfL.1 mode M Q rest
theorem mgF_eq (mode : Int) (M Q : Nat) (rest : Bool) : mgF mode M Q rest = mfX mode M Q rest := mfL.2 mode M Q rest
noncomputable def oMag_s (p : (List Bool × (List Bool × (Int × Bool))) × Int) : Option (Int × Int) :=
  bif decide (p.1.1.length ≤ 1000000000) && decide (p.1.2.1.length ≤ 1000000000) && decide (-5000 ≤ p.1.2.2.1) && decide (p.1.2.2.1 ≤ 5000) && Nat.beq (valB p.1.2.1) 1 && !Nat.beq (valB p.1.1) 0 then
    some (((mgK p.2 (valB p.1.1) (p.1.2.2.1 + 6000).toNat p.1.2.2.2 : Nat) : Int), mgF p.2 (valB p.1.1) (p.1.2.2.1 + 6000).toNat p.1.2.2.2)
  else none
theorem fl_lookL {A B : List Bool} {E : Int} {rest : Bool} (hA : A.length ≤ 1000000000) (hB : B.length ≤ 1000000000) (h1 : -5000 ≤ E) (h2 : E ≤ 5000) (hB1 : valB B = 1) {m : List Bool} (hm : m.length ≤ 1000000000) {e : Int} (he1 : -6000 ≤ e) (he2 : e ≤ 5000) :
    oCmp_s ((A, (B, (E, rest))), (m, e)) = some (cmpR rest (valB A * 2 ^ (E + 6000).toNat) (valB m * 2 ^ (e + 6000).toNat)) := by
  unfold oCmp_s okX
  simp only []
  rw [decide_eq_true hA, decide_eq_true hB, decide_eq_true (show -100000 ≤ E by omega), decide_eq_true (show E ≤ 100000 by omega), decide_eq_true hm, decide_eq_true (show -100000 ≤ e by omega), decide_eq_true (show e ≤ 100000 by omega)]
  simp only [Bool.and_self, cond_true]
  unfold cmpR
  rw [hB1, Nat.mul_one, cmp_scale (by omega) he1]
theorem add_some {a b : List Bool} (h : max a.length b.length + 1 ≤ 549755813888) : bAdd_s (a, b) = some (addB a b) := by
  unfold bAdd_s
  have : Nat.ble (max a.length b.length + 1) 549755813888 = true := by rw [Nat.ble_eq]; exact h
  simp only []
  rw [this]; rfl
theorem one_bits : List.flatten [wdB 1] = wdB 1 := by simp
theorem mid_is {M Q : Nat} (hM : M ≠ 0) (rest : Bool) : cmpR rest (M * 2 ^ Q) ((2 * kM (floorN M Q) + 1) * 2 ^ (kE (floorN M Q) + (SH - 1))) = if hfN M Q then (if rest || rsN M Q then 1 else 0) else -1 := by
  unfold cmpR
  rw [cmp_mid hM]
  cases hfN M Q <;> cases rsN M Q <;> cases rest <;> rfl
theorem exact_is {M Q : Nat} (hM : M ≠ 0) (rest : Bool) : decide (cmpR rest (M * 2 ^ Q) (kM (floorN M Q) * 2 ^ (kE (floorN M Q) + SH)) = 0) = !(hfN M Q || (rest || rsN M Q)) := by
  have h := floor_exact (E := Q) hM
  unfold kV at h
  rw [Nat.mul_assoc, ← Nat.pow_add] at h
  unfold cmpR
  by_cases h0 : cmpI (M * 2 ^ Q) (kM (floorN M Q) * 2 ^ (kE (floorN M Q) + SH)) = 0
  · obtain ⟨e1, e2⟩ := h.1 (cmpI_eq0.1 h0)
    rw [decide_eq_true h0, cond_true, e1, e2, h0]
    cases rest <;> rfl
  · rw [decide_eq_false h0, cond_false, decide_eq_false h0]
    have : ¬ (hfN M Q = false ∧ rsN M Q = false) := fun e => h0 (cmpI_eq0.2 (h.2 e))
    revert this
    cases hfN M Q <;> cases rsN M Q <;> cases rest <;> simp
theorem keep_odd (M Q : Nat) : (floorN M Q % 2 == 1) = (keepN M Q % 2 == 1) := by
  have : floorN M Q % 2 = keepN M Q % 2 := by unfold floorN; omega
  rw [this]
theorem oMag_ok (p : (List Bool × (List Bool × (Int × Bool))) × Int) (y : Int × Int) (hg : (dc (cA (dc (cQ 4 1) (dc (cQ 4 1) (dc (cI .i64) (d1 cB))))) (d1 (cI .u8))).good p) (h : oMag_s p = some y) : oMag p.1 p.2 = some y := by
  obtain ⟨⟨A, B, E, rest⟩, mode⟩ := p
  obtain ⟨hc, h⟩ := bif_some h
  have := soi h; subst this
  simp only [Bool.and_eq_true, decide_eq_true_eq, Bool.not_eq_true'] at hc
  obtain ⟨⟨⟨⟨⟨h1, h2⟩, h3⟩, h4⟩, h5⟩, h6⟩ := hc
  have hfl : oFloor_s (A, (B, (E, rest))) = some ((min (floorN (valB A) (E + 6000).toNat) 9218868437227405312 : Nat) : Int) := by
    unfold oFloor_s
    simp only []
    rw [decide_eq_true h1, decide_eq_true h2, decide_eq_true h3, decide_eq_true h4, h5, h6]; rfl
  have hB1 := Nat.eq_of_beq_eq_true h5
  have hM : valB A ≠ 0 := fun e => by rw [e] at h6; exact absurd h6 (by decide)
  simp only []
  rw [mgK_eq, mgF_eq]
  unfold mfX
  simp only []
  have hmid := mid_is (Q := (E + 6000).toNat) hM rest
  have hexa := exact_is (Q := (E + 6000).toNat) hM rest
  have hodd := keep_odd (valB A) (E + 6000).toNat
  have look := @fl_lookL A B E rest h1 h2 h3 h4 hB1
  rw [← hodd]
  obtain ⟨Q, hQ⟩ : ∃ Q, (E + 6000).toNat = Q := ⟨_, rfl⟩
  rw [hQ] at hfl hmid hexa look ⊢
  obtain ⟨M, hMe⟩ : ∃ M, valB A = M := ⟨_, rfl⟩
  rw [hMe] at hfl hmid hexa look hM ⊢
  obtain ⟨k, hk⟩ : ∃ k, min (floorN M Q) 9218868437227405312 = k := ⟨_, rfl⟩
  rw [hk] at hfl ⊢
  have hkM := kM_lt k
  have hkE := kE_lt (k := k) (by omega)
  have hsp : oSplit_s (k : Int) = some (wdB ((kM k : Nat) : Int), ((kE k : Nat) : Int) - 1074) := by
    unfold oSplit_s
    rw [decide_eq_true (by omega), cond_true, Int.toNat_natCast]
  have l0 : oCmp_s ((A, (B, (E, rest))), (wdB ((kM k : Nat) : Int), ((kE k : Nat) : Int) - 1074)) = some (cmpR rest (M * 2 ^ Q) (kM k * 2 ^ (kE k + SH))) := by
    rw [look (by rw [wdB_len]; omega) (by omega) (by omega), wdB_val (by omega), show (((kE k : Nat) : Int) - 1074 + 6000).toNat = kE k + SH by rw [SH_eq]; omega]
  have l1 : oCmp_s ((A, (B, (E, rest))), (wdB 1, -1022)) = some (cmpR rest (M * 2 ^ Q) (1 * 2 ^ 4978)) := by
    rw [look (by rw [wdB_len]; omega) (by omega) (by omega), show valB (wdB 1) = 1 from wdB_val (m := 1) (by omega), show ((-1022 : Int) + 6000).toNat = 4978 from rfl]
  obtain ⟨c0, hc0⟩ : ∃ c0, cmpR rest (M * 2 ^ Q) (kM k * 2 ^ (kE k + SH)) = c0 := ⟨_, rfl⟩
  obtain ⟨c1, hc1⟩ : ∃ c1, cmpR rest (M * 2 ^ Q) (1 * 2 ^ 4978) = c1 := ⟨_, rfl⟩
  rw [hc0] at l0 ⊢
  rw [hc1] at l1 ⊢
  have hF0 : ∀ {β : Type} (kf : Int × (Int × (Int × (Bool × (List Bool × (List Bool × (List Bool × (Int × (Bool × Unit)))))))) → Option β), ((bif (!(decide (c0 = 0))) then
      (some c1).bind fun x3 => ((bif (decide ((x3 < 0))) then
        some (mode, ((Fly.bitv Go.BinOp.or .u8 (Fly.bitv Go.BinOp.or .u8 0 1) 2), ((k : Int), ((decide ((c0 = 0))), (wdB 1, (A, (B, (E, (rest, ())))))))))
        else some (mode, ((Fly.bitv Go.BinOp.or .u8 0 1), ((k : Int), ((decide ((c0 = 0))), (wdB 1, (A, (B, (E, (rest, ()))))))))))).bind fun x4 => some (x4.1, (x4.2.1, (x4.2.2.1, (x4.2.2.2.1, (x4.2.2.2.2.1, (x4.2.2.2.2.2.1, (x4.2.2.2.2.2.2.1, (x4.2.2.2.2.2.2.2.1, (x4.2.2.2.2.2.2.2.2.1, ())))))))))
      else some (mode, ((0 : Int), ((k : Int), ((decide ((c0 = 0))), (wdB 1, (A, (B, (E, (rest, ()))))))))))).bind kf = kf (mode, (mf0 (decide (c0 = 0)) (decide (c1 < 0)), ((k : Int), (decide (c0 = 0), (wdB 1, (A, (B, (E, (rest, ()))))))))) := fun kf => by
    unfold mf0
    cases decide (c0 = 0)
    · rw [Option.bind_some]; cases decide (c1 < 0) <;> rfl
    · rfl
  unfold oMag
  simp only []
  rw [hfl, Option.bind_some, hsp, Option.bind_some, l0, Option.bind_some, one_bits, l1, hF0]
  generalize mf0 (decide (c0 = 0)) (decide (c1 < 0)) = f0
  simp only []
  have fin : ∀ u : Bool, (k ≤ 9218868437227405311 → u = upN false mode (floorN M Q % 2 == 1) (hfN M Q) (rest || rsN M Q)) →
      (bif decide ((k : Int) ≤ 9218868437227405311) then
        (bif u then (bif decide (9218868437227405311 < IntKind.i64.wrap ((k : Int) + 1)) then (bif decide (mode = 2) then some ((9218868437227405311 : Int), Fly.bitv BinOp.or .u8 (Fly.bitv BinOp.or .u8 f0 4) 1) else some ((9218868437227405312 : Int), Fly.bitv BinOp.or .u8 (Fly.bitv BinOp.or .u8 f0 4) 1)) else some (IntKind.i64.wrap ((k : Int) + 1), f0))
          else (bif decide (9218868437227405311 < (k : Int)) then (bif decide (mode = 2) then some ((9218868437227405311 : Int), Fly.bitv BinOp.or .u8 (Fly.bitv BinOp.or .u8 f0 4) 1) else some ((9218868437227405312 : Int), Fly.bitv BinOp.or .u8 (Fly.bitv BinOp.or .u8 f0 4) 1)) else some ((k : Int), f0)))
        else (bif decide (9218868437227405311 < (k : Int)) then (bif decide (mode = 2) then some ((9218868437227405311 : Int), Fly.bitv BinOp.or .u8 (Fly.bitv BinOp.or .u8 f0 4) 1) else some ((9218868437227405312 : Int), Fly.bitv BinOp.or .u8 (Fly.bitv BinOp.or .u8 f0 4) 1)) else some ((k : Int), f0))) =
      some (((finN (twN false mode) (floorN M Q + (upN false mode (floorN M Q % 2 == 1) (hfN M Q) (rest || rsN M Q)).toNat) : Nat) : Int), bif Nat.ble (floorN M Q + (upN false mode (floorN M Q % 2 == 1) (hfN M Q) (rest || rsN M Q)).toNat) topN then f0 else Fly.bitv BinOp.or .u8 (Fly.bitv BinOp.or .u8 f0 4) 1) := by
    intro u hu
    have htw : twN false mode = decide (mode = 2) := rfl
    have hw : IntKind.i64.wrap ((k : Int) + 1) = ((k + 1 : Nat) : Int) := by rw [w64 (by omega) (by omega)]; omega
    rw [hw, htw]
    unfold finN
    by_cases hkt : k ≤ 9218868437227405311
    · have hku := hu hkt
      rw [← hku, show floorN M Q = k by omega, decide_eq_true (by omega), cond_true]
      cases u with
      | false =>
        have : Nat.ble (k + false.toNat) topN = true := by rw [Nat.ble_eq]; exact hkt
        rw [this, cond_false, decide_eq_false (by omega)]; rfl
      | true =>
        by_cases hk1 : k + 1 ≤ 9218868437227405311
        · have : Nat.ble (k + true.toNat) topN = true := by rw [Nat.ble_eq]; exact hk1
          rw [this, cond_true, decide_eq_false (by omega)]; rfl
        · have : Nat.ble (k + true.toNat) topN = false := by
            cases hb : Nat.ble (k + true.toNat) topN with
            | false => rfl
            | true => exact absurd (Nat.le_of_ble_eq_true hb) hk1
          rw [this, cond_true, decide_eq_true (by omega)]
          cases decide (mode = 2) <;> rfl
    · have hb : Nat.ble (floorN M Q + (upN false mode (floorN M Q % 2 == 1) (hfN M Q) (rest || rsN M Q)).toNat) topN = false := by
        cases hb : Nat.ble (floorN M Q + (upN false mode (floorN M Q % 2 == 1) (hfN M Q) (rest || rsN M Q)).toNat) topN with
        | false => rfl
        | true =>
          have := Nat.le_of_ble_eq_true hb
          unfold topN at this; omega
      rw [hb, decide_eq_false (by omega), cond_false, decide_eq_true (by omega)]
      cases decide (mode = 2) <;> rfl
  by_cases m1 : mode = 1
  · subst m1
    cases hex : decide (c0 = 0) with
    | true => exact fin false (fun hkt => by
        rw [show floorN M Q = k by omega, hc0, hex] at hexa
        show false = (hfN M Q || (rest || rsN M Q))
        generalize (hfN M Q || (rest || rsN M Q)) = X at hexa ⊢
        cases X
        · first | rfl | exact absurd hexa (by decide)
        · first | rfl | exact absurd hexa (by decide))
    | false => exact fin true (fun hkt => by
        rw [show floorN M Q = k by omega, hc0, hex] at hexa
        show true = (hfN M Q || (rest || rsN M Q))
        generalize (hfN M Q || (rest || rsN M Q)) = X at hexa ⊢
        cases X
        · first | rfl | exact absurd hexa (by decide)
        · first | rfl | exact absurd hexa (by decide))
  · rw [decide_eq_false m1]
    by_cases m2 : mode = 2
    · rw [decide_eq_true m2]
      exact fin false (fun _ => by subst m2; rfl)
    · rw [decide_eq_false m2]
      have hup : ∀ od hf rs : Bool, upN false mode od hf rs = (hf && (rs || od)) := fun od hf rs => by
        unfold upN awN twN
        simp only [cond_false]
        rw [decide_eq_false m1, decide_eq_false m2]; rfl
      simp only [cond_false, Bool.not_false, cond_true, hsp, Option.bind_some]
      by_cases hkt : k ≤ 9218868437227405311
      · have hfk : floorN M Q = k := by omega
        rw [hfk] at hmid
        rw [decide_eq_false (show ¬ (9218868437227405311 : Int) < (k : Int) by omega)]
        simp only [cond_false, Option.bind_some]
        have s1 : bShl_s (wdB ((kM k : Nat) : Int), (1 : Int)) = some (List.replicate (1 : Int).toNat false ++ wdB ((kM k : Nat) : Int)) := shl_some (by rw [wdB_len]; show 1 + 64 ≤ _; omega)
        have hl1 : (List.replicate (1 : Int).toNat false ++ wdB ((kM k : Nat) : Int)).length = 65 := by rw [List.length_append, wdB_len]; rfl
        have hv1 : valB (List.replicate (1 : Int).toNat false ++ wdB ((kM k : Nat) : Int)) = 2 * kM k := by rw [valB_shl, wdB_val (by omega)]; rfl
        generalize List.replicate (1 : Int).toNat false ++ wdB ((kM k : Nat) : Int) = L1 at s1 hl1 hv1
        have s2 : bAdd_s (L1, wdB 1) = some (addB L1 (wdB 1)) := add_some (by rw [hl1, wdB_len]; omega)
        have hl2 := addB_len L1 (wdB 1)
        rw [hl1, wdB_len] at hl2
        have hv2 := addB_val L1 (wdB 1)
        rw [hv1, show valB (wdB 1) = 1 from wdB_val (m := 1) (by omega)] at hv2
        have s3 : IntKind.i64.wrap (((kE k : Nat) : Int) - 1074 - 1) = ((kE k : Nat) : Int) - 1075 := by rw [w64 (by omega) (by omega)]; omega
        have s4 := look (m := addB L1 (wdB 1)) (e := ((kE k : Nat) : Int) - 1075) (by omega) (by omega) (by omega)
        rw [hv2, show (((kE k : Nat) : Int) - 1075 + 6000).toNat = kE k + (SH - 1) by rw [SH_eq]; omega, hmid] at s4
        obtain ⟨c2, hc2⟩ : ∃ c2 : Int, (if hfN M Q = true then (if (rest || rsN M Q) = true then 1 else 0) else -1) = c2 := ⟨_, rfl⟩
        rw [hc2] at s4
        rw [s1, Option.bind_some, s2, Option.bind_some, s3, s4, Option.bind_some]
        have hpar : decide (Int.tmod (k : Int) 2 = 1) = (k % 2 == 1) := by
          rw [show (2 : Int) = ((2 : Nat) : Int) from rfl, tm_nat, show (1 : Int) = ((1 : Nat) : Int) from rfl, nat_eq]
          rcases Nat.mod_two_eq_zero_or_one k with e | e <;> rw [e] <;> rfl
        rw [hpar]
        have three : (hfN M Q = false ∧ c2 = -1) ∨ (hfN M Q = true ∧ (rest || rsN M Q) = false ∧ c2 = 0) ∨ (hfN M Q = true ∧ (rest || rsN M Q) = true ∧ c2 = 1) := by
          rw [← hc2]
          cases hfN M Q
          · exact .inl ⟨rfl, rfl⟩
          · cases (rest || rsN M Q)
            · exact .inr (.inl ⟨rfl, rfl, rfl⟩)
            · exact .inr (.inr ⟨rfl, rfl, rfl⟩)
        clear hc2
        rcases three with ⟨a1, rfl⟩ | ⟨a1, a2, rfl⟩ | ⟨a1, a2, rfl⟩
        · exact fin false (fun _ => by rw [hup, a1]; rfl)
        · cases hp : (k % 2 == 1) with
          | true => exact fin true (fun _ => by rw [hup, a1, a2, hfk, hp]; rfl)
          | false => exact fin false (fun _ => by rw [hup, a1, a2, hfk, hp]; rfl)
        · exact fin true (fun _ => by rw [hup, a1, a2]; rfl)
      · rw [decide_eq_true (show (9218868437227405311 : Int) < (k : Int) by omega)]
        simp only [cond_true, Option.bind_some]
        have t1 : bAdd_s (wdB ((9007199254740991 : Nat) : Int), wdB 1) = some (addB (wdB ((9007199254740991 : Nat) : Int)) (wdB 1)) := add_some (by rw [wdB_len, wdB_len]; omega)
        have hl0 := addB_len (wdB ((9007199254740991 : Nat) : Int)) (wdB 1)
        rw [wdB_len, wdB_len] at hl0
        generalize addB (wdB ((9007199254740991 : Nat) : Int)) (wdB 1) = L0 at t1 hl0
        have t2 : bShl_s (L0, (1 : Int)) = some (List.replicate (1 : Int).toNat false ++ L0) := shl_some (by show 1 + L0.length ≤ _; omega)
        have hl1 : (List.replicate (1 : Int).toNat false ++ L0).length ≤ 66 := by rw [List.length_append]; show 1 + L0.length ≤ 66; omega
        generalize List.replicate (1 : Int).toNat false ++ L0 = L1 at t2 hl1
        have t3 : bAdd_s (L1, wdB 1) = some (addB L1 (wdB 1)) := add_some (by rw [wdB_len]; omega)
        have hl2 := addB_len L1 (wdB 1)
        rw [wdB_len] at hl2
        have t4 := look (m := addB L1 (wdB 1)) (e := IntKind.i64.wrap (((2045 : Nat) : Int) - 1074 - 1)) (by omega) (by decide) (by decide)
        generalize cmpR rest (M * 2 ^ Q) (valB (addB L1 (wdB 1)) * 2 ^ (IntKind.i64.wrap (((2045 : Nat) : Int) - 1074 - 1) + 6000).toNat) = c3 at t4
        rw [t1]
        simp only [Option.bind_some]
        rw [t2, Option.bind_some, t3, Option.bind_some, t4, Option.bind_some]
        cases decide (0 < c3) with
        | true => exact fin true (fun h => absurd h hkt)
        | false =>
          cases decide (c3 = 0) with
          | true =>
            cases decide (Int.tmod (k : Int) 2 = 1) with
            | true => exact fin true (fun h => absurd h hkt)
            | false => exact fin false (fun h => absurd h hkt)
          | false => exact fin false (fun h => absurd h hkt)
end
end Su
end
