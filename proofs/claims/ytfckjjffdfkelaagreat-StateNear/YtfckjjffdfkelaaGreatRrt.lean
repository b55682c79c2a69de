/-
  Bits and rounding, in plain Lean. No condition.
-/
import Derived.Test.YtfckjjffdfkelaaGreatNB10
import Derived.Test.YtfckjjffdfkelaaGreatSuSd
set_option maxRecDepth 10000
section
namespace Su
open Go Fly
set_option linter.unusedVariables false
noncomputable section
def mkQ (p : Int) (q : Nat) : Rt := lowR (decide (p < 0)) p.natAbs q
def sv (a : Rt) : Int := bif a.1 then -(nu a : Int) else (nu a : Int)
theorem low_zero (neg : Bool) (d : Nat) : lowR neg 0 d = (false, ([], ofN 1)) := by rw [lowR_eq]; unfold lowR'; rw [if_pos (.inl rfl)]
theorem low_scale (neg : Bool) (n d : Nat) {k : Nat} (hk : 0 < k) : lowR neg (n * k) (d * k) = lowR neg n d := by
  rw [lowR_eq, lowR_eq]
  unfold lowR'
  by_cases h : n = 0 ∨ d = 0
  · rw [if_pos h, if_pos (by rcases h with h | h <;> simp [h])]
  · have h1 : n ≠ 0 := fun e => h (.inl e)
    have h2 : d ≠ 0 := fun e => h (.inr e)
    have h3 : ¬ (n * k = 0 ∨ d * k = 0) := by
      intro e
      rcases e with e | e
      · rcases Nat.mul_eq_zero.1 e with e | e <;> omega
      · rcases Nat.mul_eq_zero.1 e with e | e <;> omega
    rw [if_neg h, if_neg h3, Nat.gcd_mul_right, Nat.mul_div_mul_right _ _ hk, Nat.mul_div_mul_right _ _ hk]
theorem low_mk (neg : Bool) (n d : Nat) : lowR neg n d = mkQ (bif neg then -(n : Int) else (n : Int)) d := by
  unfold mkQ
  by_cases h : n = 0
  · subst h
    cases neg <;> simp [low_zero]
  · cases neg with
    | true => rw [cond_true, decide_eq_true (by omega), Int.natAbs_neg, Int.natAbs_natCast]
    | false => rw [cond_false, decide_eq_false (by omega), Int.natAbs_natCast]
structure Sz (a : Rt) (k : Nat) : Prop where
  wn : Wd a.2.1
  wd : Wd a.2.2
  ln : a.2.1.length ≤ k
  ld : a.2.2.length ≤ k
theorem low_sz {neg : Bool} {n d k : Nat} (h1 : n < 4294967296 ^ k) (h2 : d < 4294967296 ^ k) (hk : 1 ≤ k) : Sz (lowR neg n d) k := by
  rw [lowR_eq]
  unfold lowR'
  by_cases h : n = 0 ∨ d = 0
  · rw [if_pos h]
    exact ⟨.nil, Wd_ofN 1, Nat.zero_le _, Nat.le_trans (ofN_len (v := 1) (k := 1) (by decide)) hk⟩
  · rw [if_neg h]
    exact ⟨Wd_ofN _, Wd_ofN _, ofN_len (Nat.lt_of_le_of_lt (Nat.div_le_self _ _) h1), ofN_len (Nat.lt_of_le_of_lt (Nat.div_le_self _ _) h2)⟩
theorem Sz.nu {a : Rt} {k : Nat} (h : Sz a k) : Su.nu a < 4294967296 ^ k := Nat.lt_of_lt_of_le (valN_lt _ h.wn) (Nat.pow_le_pow_right (by omega) h.ln)
theorem Sz.de {a : Rt} {k : Nat} (h : Sz a k) : Su.de a < 4294967296 ^ k := Nat.lt_of_lt_of_le (valN_lt _ h.wd) (Nat.pow_le_pow_right (by omega) h.ld)
theorem Sz.mono {a : Rt} {k m : Nat} (h : Sz a k) (hm : k ≤ m) : Sz a m := ⟨h.wn, h.wd, Nat.le_trans h.ln hm, Nat.le_trans h.ld hm⟩
theorem Sz.ok4 {a : Rt} {k : Nat} (h : Sz a k) (hk : k ≤ 400000) : Su.ok4 a = true := by
  unfold Su.ok4
  rw [Nat.ble_eq_true_of_le (Nat.le_trans h.ln hk), Nat.ble_eq_true_of_le (Nat.le_trans h.ld hk)]; rfl
theorem Sz.okRt {a : Rt} {k : Nat} (h : Sz a k) (hk : k ≤ 1000000) : Su.okRt a = true := by
  unfold Su.okRt okL
  rw [Nat.ble_eq_true_of_le (Nat.le_trans h.ln hk), Nat.ble_eq_true_of_le (Nat.le_trans h.ld hk)]; rfl
theorem rlow_sz {a : Rt} {k : Nat} (h : Sz a k) (hk : 1 ≤ k) : Sz (rlow a) k := low_sz h.nu h.de hk
theorem rneg_sz {a : Rt} {k : Nat} (h : Sz a k) (hk : 1 ≤ k) : Sz (rneg a) k := low_sz h.nu h.de hk
theorem rabs_sz {a : Rt} {k : Nat} (h : Sz a k) (hk : 1 ≤ k) : Sz (rabs a) k := low_sz h.nu h.de hk
theorem mul_pow {a b k m : Nat} (h1 : a < 4294967296 ^ k) (h2 : b < 4294967296 ^ m) : a * b < 4294967296 ^ (k + m) := by
  rw [Nat.pow_add]; exact Nat.mul_lt_mul'' h1 h2
theorem rsum_sz {x y : Rt} {k m : Nat} (h : Sz x k) (h' : Sz y m) : Sz (rsum x y) (k + m + 1) := by
  have p1 := mul_pow h.nu h'.de
  have p2 := mul_pow h.de h'.nu
  have p3 := mul_pow h.de h'.de
  rw [Nat.mul_comm] at p2
  have p4 : 4294967296 ^ (k + m + 1) = 4294967296 ^ (k + m) * 4294967296 := Nat.pow_succ ..
  unfold rsum
  generalize nu x * de y = A at *
  generalize nu y * de x = B at *
  generalize de x * de y = C at *
  generalize 4294967296 ^ (k + m) = P at *
  cases decide (x.1 = y.1) with
  | true => exact low_sz (by omega) (by omega) (by omega)
  | false =>
    cases decide (B ≤ A) with
    | true => exact low_sz (by omega) (by omega) (by omega)
    | false => exact low_sz (by omega) (by omega) (by omega)
theorem radd_sz {a b : Rt} {k m : Nat} (h : Sz a k) (h' : Sz b m) (hk : 1 ≤ k) (hm : 1 ≤ m) : Sz (radd a b) (k + m + 1) := rsum_sz (rlow_sz h hk) (rlow_sz h' hm)
theorem rsub_sz {a b : Rt} {k m : Nat} (h : Sz a k) (h' : Sz b m) (hk : 1 ≤ k) (hm : 1 ≤ m) : Sz (rsub a b) (k + m + 1) := radd_sz h (rneg_sz h' hm) hk hm
theorem mk_sz {p : Int} {q k : Nat} (h1 : p.natAbs < 4294967296 ^ k) (h2 : q < 4294967296 ^ k) (hk : 1 ≤ k) : Sz (mkQ p q) k := low_sz h1 h2 hk
@[irreducible] def EX : Nat := 1074
theorem EX_eq : EX = 1074 := by unfold EX; rfl
@[irreducible] def BX : Nat := 2098
theorem BX_eq : BX = 2098 := by unfold BX; rfl
@[irreducible] def QD : Nat := 2 ^ EX
theorem QD_eq : QD = 2 ^ EX := by unfold QD; rfl
def fvK (b : Bool) (k : Nat) : Int := bif finK k then (bif b then -(kV k : Int) else (kV k : Int)) else 0
def fv (f : Nat) : Int := fvK (bS f) (bK f)
theorem kM_lt (k : Nat) : kM k < 9007199254740992 := by unfold kM; split <;> omega
theorem valR_mk (f : Nat) : valR f = mkQ (fv f) QD := by
  unfold valR fv fvK
  rw [dyV_eq]
  unfold dyV' spM spE
  generalize bS f = b
  generalize bK f = k
  cases hf : finK k with
  | false =>
    simp only [cond_false, Bool.false_and]
    rw [if_neg (by omega)]
    show lowR b _ _ = _
    unfold mkQ
    simp [low_zero]
  | true =>
    have hk := finK_iff.1 hf
    simp only [cond_true, Bool.true_and]
    by_cases h0 : k = 0
    · subst h0
      rw [show Nat.beq 0 0 = true from rfl]
      simp only [Bool.not_true, cond_false]
      rw [if_neg (by omega)]
      have e1 : kV 0 = 0 := rfl
      have e2 : kM 0 = 0 := rfl
      rw [e1, e2]
      unfold mkQ
      cases b <;> simp [low_zero]
    · have hb : Nat.beq k 0 = false := by
        cases h : Nat.beq k 0 with
        | false => rfl
        | true => exact absurd (Nat.eq_of_beq_eq_true h) h0
      rw [hb]
      simp only [Bool.not_false, cond_true]
      have hE : kE k ≤ 2045 := by unfold kE; omega
      rw [if_neg (by omega)]
      show lowR b (Int.toNat (kM k : Int) * 2 ^ (max ((kE k : Int) - 1074) 0).toNat) (2 ^ (max (-((kE k : Int) - 1074)) 0).toNat) = _
      rw [Int.toNat_natCast, ← low_mk]
      unfold kV
      rw [QD_eq]
      have hX := EX_eq
      by_cases h : EX ≤ kE k
      · have e1 : (max ((kE k : Int) - 1074) 0).toNat = kE k - EX := by omega
        have e2 : (max (-((kE k : Int) - 1074)) 0).toNat = 0 := by omega
        rw [e1, e2, ← low_scale b _ _ (Nat.two_pow_pos EX), Nat.mul_assoc, ← Nat.pow_add, ← Nat.pow_add, Nat.sub_add_cancel h, Nat.zero_add]
      · have e1 : (max ((kE k : Int) - 1074) 0).toNat = 0 := by omega
        have e2 : (max (-((kE k : Int) - 1074)) 0).toNat = EX - kE k := by omega
        rw [e1, e2, ← low_scale b _ _ (Nat.two_pow_pos (kE k)), Nat.mul_assoc, ← Nat.pow_add, ← Nat.pow_add, Nat.sub_add_cancel (by omega), Nat.zero_add]
theorem kV_lt_pow {k : Nat} (h : k ≤ 9218868437227405311) : kV k < 2 ^ BX := by
  have h1 : kM k < 2 ^ 53 := kM_lt k
  have h2 : kE k + 53 ≤ BX := by rw [BX_eq]; unfold kE; omega
  unfold kV
  have h3 := Nat.mul_lt_mul_of_pos_right h1 (Nat.two_pow_pos (kE k))
  rw [← Nat.pow_add] at h3
  exact Nat.lt_of_lt_of_le h3 (Nat.pow_le_pow_right (by omega) (by omega))
theorem fv_abs (f : Nat) : (fv f).natAbs < 2 ^ BX := by
  unfold fv fvK
  cases hf : finK (bK f) with
  | false => exact Nat.two_pow_pos _
  | true =>
    have := kV_lt_pow (finK_iff.1 hf)
    simp only [cond_true]
    cases bS f
    · simpa using this
    · simpa using this
theorem valR_sz (f : Nat) : Sz (valR f) 66 := by
  have h1 := BX_eq
  have h2 := EX_eq
  rw [valR_mk]
  refine mk_sz ?_ ?_ (by omega)
  · rw [pow32, show 32 * 66 = BX + 14 by omega]; exact Nat.lt_of_lt_of_le (fv_abs f) (Nat.pow_le_pow_right (by omega) (by omega))
  · rw [QD_eq, pow32, show 32 * 66 = EX + 1038 by omega]; exact Nat.pow_lt_pow_right (by omega) (by omega)
end
end Su
end
section
namespace Su
open Go Fly
set_option linter.unusedVariables false
noncomputable section
def Runs {S R : Type} (K : Nat) (F : S → Option (S ⊕ R)) (s : S) (r : R) : Prop := ∀ m, K ≤ m → itP m F s = some r
theorem Runs.next {S R : Type} {K : Nat} {F : S → Option (S ⊕ R)} {s s' : S} {r : R} (h : F s = some (.inl s')) (hn : Runs K F s' r) : Runs (K + 1) F s r := fun m hm => by
  obtain ⟨j, rfl⟩ : ∃ j, m = j + 1 := ⟨m - 1, by omega⟩
  rw [itP_s, h]
  exact hn j (by omega)
theorem Runs.stop {S R : Type} {K : Nat} {F : S → Option (S ⊕ R)} {s : S} {r : R} (h : F s = some (.inr r)) : Runs (K + 1) F s r := fun m hm => by
  obtain ⟨j, rfl⟩ : ∃ j, m = j + 1 := ⟨m - 1, by omega⟩
  rw [itP_s, h]; rfl
theorem Runs.up {S R : Type} {K K' : Nat} {F : S → Option (S ⊕ R)} {s : S} {r : R} (h : Runs K F s r) (hk : K ≤ K') : Runs K' F s r := fun m hm => h m (by omega)
def allN (n : Nat) (f : Nat → Bool) : Bool := (List.range n).all f
theorem allN_iff {n : Nat} {f : Nat → Bool} : allN n f = true ↔ ∀ i, i < n → f i = true := by
  unfold allN
  simp [List.all_eq_true, List.mem_range]
theorem allN_not {n : Nat} {f : Nat → Bool} : allN n f = false ↔ ∃ i, i < n ∧ f i = false := by
  rw [← Bool.not_eq_true, allN_iff]
  constructor
  · intro h
    by_cases hn : ∃ i, i < n ∧ f i = false
    · exact hn
    · exact absurd (fun i hi => by cases hf : f i with | true => rfl | false => exact absurd ⟨i, hi, hf⟩ hn) h
  · rintro ⟨i, hi, hf⟩ h
    rw [h i hi] at hf; cases hf
theorem allN_congr {n : Nat} {f g : Nat → Bool} (h : ∀ i, i < n → f i = g i) : allN n f = allN n g := by
  cases hg : allN n g with
  | true => exact allN_iff.2 fun i hi => by rw [h i hi]; exact allN_iff.1 hg i hi
  | false =>
    obtain ⟨i, hi, hf⟩ := allN_not.1 hg
    exact allN_not.2 ⟨i, hi, by rw [h i hi]; exact hf⟩
theorem runs_from {S R : Type} {F : S → Option (S ⊕ R)} {mk : Nat → S} {n : Nat} {ok : Nat → Bool} {r0 r1 : R}
    (h1 : ∀ i, i < n → ok i = true → F (mk i) = some (.inl (mk (i + 1)))) (h2 : ∀ i, i < n → ok i = false → F (mk i) = some (.inr r1)) (h0 : F (mk n) = some (.inr r0)) :
    ∀ (j i : Nat), i + j = n → Runs (j + 1) F (mk i) (bif (List.range' i j).all ok then r0 else r1)
  | 0, i, h => by
    have : i = n := by omega
    subst this
    exact Runs.stop h0
  | j + 1, i, h => by
    rw [List.range'_succ, List.all_cons]
    cases hk : ok i with
    | true => exact Runs.next (h1 i (by omega) hk) (by simpa using runs_from h1 h2 h0 j (i + 1) (by omega))
    | false => exact Runs.stop (h2 i (by omega) hk)
theorem runs_all {S R : Type} {F : S → Option (S ⊕ R)} {mk : Nat → S} {n : Nat} {ok : Nat → Bool} {r0 r1 : R}
    (h1 : ∀ i, i < n → ok i = true → F (mk i) = some (.inl (mk (i + 1)))) (h2 : ∀ i, i < n → ok i = false → F (mk i) = some (.inr r1)) (h0 : F (mk n) = some (.inr r0)) :
    Runs (n + 1) F (mk 0) (bif allN n ok then r0 else r1) := by
  have := runs_from h1 h2 h0 n 0 (by omega)
  rwa [← List.range_eq_range'] at this
theorem ixl {α : Type} {l : List α} {i : Nat} (h : i < l.length) : idx l (i : Int) = some l[i] := by
  rw [idx_nat, List.getElem?_eq_getElem h]
theorem w1 {i n : Nat} (h : i < n) (hn : n ≤ maxLen) : IntKind.i64.wrap ((i : Int) + 1) = ((i + 1 : Nat) : Int) := by
  rw [maxLen_eq] at hn
  rw [w64 (by omega) (by omega)]; rfl
theorem ltN (i n : Nat) : decide ((i : Int) < (n : Int)) = decide (i < n) := by
  by_cases h : i < n
  · rw [decide_eq_true h, decide_eq_true (by omega)]
  · rw [decide_eq_false h, decide_eq_false (by omega)]
theorem nbeq (n : Nat) : Nat.beq n n = true := by simp
end
end Su
end
section
namespace Su
open Go Fly
set_option linter.unusedVariables false
noncomputable section
def sNear_l1 : ((List Su.Pr) × (Int × ((List Su.Cc) × ((List Su.T) × ((List Su.T) × ((List Su.T) × ((List Su.T) × (Int × ((List Su.Ce) × (Int × (Int × Unit))))))))))) → Option (((List Su.Pr) × (Int × ((List Su.Cc) × ((List Su.T) × ((List Su.T) × ((List Su.T) × ((List Su.T) × (Int × ((List Su.Ce) × (Int × (Int × Unit))))))))))) ⊕ (Lp ((List Su.Pr) × (Int × ((List Su.Cc) × ((List Su.T) × ((List Su.T) × ((List Su.T) × ((List Su.T) × (Int × ((List Su.Ce) × (Int × (Int × Unit))))))))))) Bool)) := fun p0 => (bif (decide ((p0.2.2.2.2.2.2.2.2.2.2.1 < p0.2.2.2.2.2.2.2.2.2.1))) then
  ((Su.idx p0.2.2.2.2.2.2.2.2.1 p0.2.2.2.2.2.2.2.2.2.2.1)).bind fun x1 =>
  ((Su.PVal_s (Su.gdF (Su.Ce.sl x1)))).bind fun x2 =>
  ((Su.idx p0.2.2.1 p0.2.2.2.2.2.2.2.2.2.2.1)).bind fun x3 =>
  (bif (!(decide (((Su.Cc.type x3) = 3)))) then
  some (.inl (p0.1, (p0.2.1, (p0.2.2.1, (p0.2.2.2.1, (p0.2.2.2.2.1, (p0.2.2.2.2.2.1, (p0.2.2.2.2.2.2.1, (p0.2.2.2.2.2.2.2.1, (p0.2.2.2.2.2.2.2.2.1, (p0.2.2.2.2.2.2.2.2.2.1, ((Go.IntKind.wrap .i64 (p0.2.2.2.2.2.2.2.2.2.2.1 + 1)), ()))))))))))))
 else
  (bif (!x2.2) then
  some (.inl (p0.1, (p0.2.1, (p0.2.2.1, (p0.2.2.2.1, (p0.2.2.2.2.1, (p0.2.2.2.2.2.1, (p0.2.2.2.2.2.2.1, (p0.2.2.2.2.2.2.2.1, (p0.2.2.2.2.2.2.2.2.1, (p0.2.2.2.2.2.2.2.2.2.1, ((Go.IntKind.wrap .i64 (p0.2.2.2.2.2.2.2.2.2.2.1 + 1)), ()))))))))))))
 else
  ((Su.idx p0.1 p0.2.2.2.2.2.2.2.2.2.2.1)).bind fun x4 =>
  ((Su.PVal_s (Su.Vl.f (Su.Pr.v x4)))).bind fun x5 =>
  (bif (!(Su.Pr.known x4)) then
  some (.inr (.ret false))
 else
  (bif (!x5.2) then
  some (.inr (.ret false))
 else
  ((Su.RSub_s ((x5.1.1, (x5.1.2.1, x5.1.2.2)), ((Su.Pr.neg x4), ((Su.Pr.num x4), (Su.Pr.den x4)))))).bind fun x6 =>
  ((Su.RAbs_s (x6.1, (x6.2.1, x6.2.2)))).bind fun x7 =>
  ((Su.RCmp_s ((x7.1, (x7.2.1, x7.2.2)), (x2.1.1, (x2.1.2.1, x2.1.2.2))))).bind fun x8 =>
  (bif (decide ((0 < x8))) then
  some (.inr (.ret false))
 else
  some (.inl (p0.1, (p0.2.1, (p0.2.2.1, (p0.2.2.2.1, (p0.2.2.2.2.1, (p0.2.2.2.2.2.1, (p0.2.2.2.2.2.2.1, (p0.2.2.2.2.2.2.2.1, (p0.2.2.2.2.2.2.2.2.1, (p0.2.2.2.2.2.2.2.2.2.1, ((Go.IntKind.wrap .i64 (p0.2.2.2.2.2.2.2.2.2.2.1 + 1)), ())))))))))))))))))
 else
  some (.inr (.exit 0 (p0.1, (p0.2.1, (p0.2.2.1, (p0.2.2.2.1, (p0.2.2.2.2.1, (p0.2.2.2.2.2.1, (p0.2.2.2.2.2.2.1, (p0.2.2.2.2.2.2.2.1, (p0.2.2.2.2.2.2.2.2.1, (p0.2.2.2.2.2.2.2.2.2.1, (p0.2.2.2.2.2.2.2.2.2.2.1, ()))))))))))))))
def sNear  (fu : Nat) (c : (Int × ((List Su.Cc) × ((List Su.T) × ((List Su.T) × ((List Su.T) × ((List Su.T) × Int))))))) (s : (Bool × (Bool × (Int × (Int × (List Su.Ce)))))) (row : (List Su.Pr)) : Option Bool :=
  (bif s.1 then
  some false
 else
  (bif (!(decide (((((List.length s.2.2.2.2) : Nat) : Int) = (((List.length c.2.1) : Nat) : Int))))) then
  some false
 else
  (bif (!(decide (((((List.length row) : Nat) : Int) = (((List.length c.2.1) : Nat) : Int))))) then
  some false
 else
  (itP fu (sNear_l1) (row, (c.1, (c.2.1, (c.2.2.1, (c.2.2.2.1, (c.2.2.2.2.1, (c.2.2.2.2.2.1, (c.2.2.2.2.2.2, (s.2.2.2.2, ((((List.length s.2.2.2.2) : Nat) : Int), ((0 : Int), ())))))))))))).bind fun x9 =>
  (match x9 with
 | .exit i10 p11 => (bif (Nat.beq i10 0) then
  some true
 else
  none)
 | .ret o12 => some o12))))
def heavy_l2 : ((List (Bool × (Bool × (Int × (Int × (List Su.Ce)))))) × (Int × (Int × Unit))) → Option (((List (Bool × (Bool × (Int × (Int × (List Su.Ce)))))) × (Int × (Int × Unit))) ⊕ (Lp ((List (Bool × (Bool × (Int × (Int × (List Su.Ce)))))) × (Int × (Int × Unit))) (((List (Bool × (Bool × (Int × (Int × (List Su.Ce)))))) × (Int × Unit)) ⊕ (Lp ((List (Bool × (Bool × (Int × (Int × (List Su.Ce)))))) × (Int × Unit)) Bool)))) := fun p2 => ((Su.idx p2.1 p2.2.1)).bind fun x3 =>
  (bif (decide ((p2.2.2.1 < (((List.length x3.2.2.2.2) : Nat) : Int)))) then
  ((Su.idx p2.1 p2.2.1)).bind fun x4 =>
  ((Su.idx x4.2.2.2.2 p2.2.2.1)).bind fun x5 =>
  (bif (decide ((8 < (((List.length x5.8.2.2.1) : Nat) : Int)))) then
  some (.inr (.ret (.inr (.ret true))))
 else
  some (.inl (p2.1, (p2.2.1, ((Go.IntKind.wrap .i64 (p2.2.2.1 + 1)), ())))))
 else
  some (.inr (.exit 2 (p2.1, (p2.2.1, (p2.2.2.1, ()))))))
def heavy_l1 (fu : Nat) : ((List (Bool × (Bool × (Int × (Int × (List Su.Ce)))))) × (Int × Unit)) → Option (((List (Bool × (Bool × (Int × (Int × (List Su.Ce)))))) × (Int × Unit)) ⊕ (Lp ((List (Bool × (Bool × (Int × (Int × (List Su.Ce)))))) × (Int × Unit)) Bool)) := fun p0 => (bif (decide ((p0.2.1 < (((List.length p0.1) : Nat) : Int)))) then
  ((Su.idx p0.1 p0.2.1)).bind fun x1 =>
  (bif (decide ((40 < (((List.length x1.2.2.2.2) : Nat) : Int)))) then
  some (.inr (.ret true))
 else
  (itP fu (heavy_l2) (p0.1, (p0.2.1, ((0 : Int), ())))).bind fun x6 =>
  (match x6 with
 | .exit i7 p8 => (bif (Nat.beq i7 2) then
  some (.inl (p8.1, ((Go.IntKind.wrap .i64 (p8.2.1 + 1)), ())))
 else
  (bif (Nat.beq i7 1) then
  some (.inl (p8.1, ((Go.IntKind.wrap .i64 (p8.2.1 + 1)), ())))
 else
  some (.inr (.exit i7 (p8.1, (p8.2.1, ()))))))
 | .ret o9 => some o9))
 else
  some (.inr (.exit 0 (p0.1, (p0.2.1, ())))))
def heavy  (fu : Nat) (c : (Int × ((List Su.Cc) × ((List Su.T) × ((List Su.T) × ((List Su.T) × ((List Su.T) × Int))))))) (l : (List (Bool × (Bool × (Int × (Int × (List Su.Ce))))))) : Option Bool :=
  (bif (decide ((40 < (((List.length c.2.1) : Nat) : Int)))) then
  some true
 else
  (itP fu (heavy_l1 fu) (l, ((0 : Int), ()))).bind fun x10 =>
  (match x10 with
 | .exit i11 p12 => (bif (Nat.beq i11 0) then
  some false
 else
  none)
 | .ret o13 => some o13))
abbrev CoD := Int × (List Su.Cc × (List Su.T × (List Su.T × (List Su.T × (List Su.T × Int)))))
abbrev StD := Bool × (Bool × (Int × (Int × List Su.Ce)))
abbrev StD.cells (s : StD) : List Su.Ce := s.2.2.2.2
abbrev CoD.cells (c : CoD) : List Su.Cc := c.2.1
def Pr.real (p : Su.Pr) : Rt := (p.neg, (p.num, p.den))
def nearC (t sl : Int) (p : Su.Pr) : Bool :=
  bif decide (t = 3) && !noNum (gdF sl).toNat then p.known && (!noNum p.v.f.toNat && !decide (0 < rcmp (rabs (rsub (valR p.v.f.toNat) p.real)) (valR (gdF sl).toNat))) else true
def nearN (c : List Su.Cc) (s : List Su.Ce) (row : List Su.Pr) (i : Nat) : Bool :=
  match c[i]?, s[i]?, row[i]? with
  | some d, some x, some p => nearC d.type x.sl p
  | _, _, _ => true
def nearS (c : CoD) (s : StD) (row : List Su.Pr) : Bool :=
  bif s.1 then false else bif !decide (s.cells.length = c.cells.length) then false else bif !decide (row.length = c.cells.length) then false else allN c.cells.length (nearN c.cells s.cells row)
def okP (p : Su.Pr) : Bool := Nat.ble p.num.length 100000 && Nat.ble p.den.length 100000
def sNear_s (a : CoD × (StD × List Su.Pr)) : Option Bool := bif a.2.2.all okP then some (nearS a.1 a.2.1 a.2.2) else none
theorem okP_sz {p : Su.Pr} (h : okP p = true) (hg : dPrP.good (frPr p)) : Sz p.real 100000 := by
  unfold okP at h
  rw [Bool.and_eq_true] at h
  obtain ⟨-, -, -, -, -, ⟨g1, -⟩, ⟨g2, -⟩, -⟩ := hg
  exact ⟨Wd.of g1, Wd.of g2, Nat.le_of_ble_eq_true h.1, Nat.le_of_ble_eq_true h.2⟩
theorem PVal_of (f : Int) : PVal_s f = some (bif noNum f.toNat then ((false, ([], [])), false) else (valR f.toNat, true)) := by
  unfold PVal_s
  rw [okS_nil, cond_true]
theorem sub_of {a b : Rt} (h1 : Sz a 100000) (h2 : Sz b 100000) : RSub_s (a, b) = some (rsub a b) ∧ Sz (rsub a b) 200001 :=
  ⟨by unfold RSub_s; simp only []; rw [h1.ok4 (by omega), h2.ok4 (by omega)]; rfl, rsub_sz h1 h2 (by omega) (by omega)⟩
theorem abs_of {a : Rt} (h1 : Sz a 200001) : RAbs_s a = some (rabs a) ∧ Sz (rabs a) 200001 :=
  ⟨by unfold RAbs_s; rw [h1.okRt (by omega)]; rfl, rabs_sz h1 (by omega)⟩
theorem cmp_of {a b : Rt} (h1 : Sz a 400000) (h2 : Sz b 400000) : RCmp_s (a, b) = some (rcmp a b) := by
  unfold RCmp_s; simp only []; rw [h1.ok4 (by omega), h2.ok4 (by omega)]; rfl
abbrev nearMk (c : CoD) (s : StD) (row : List Su.Pr) (i : Int) : List Su.Pr × (Int × (List Su.Cc × (List Su.T × (List Su.T × (List Su.T × (List Su.T × (Int × (List Su.Ce × (Int × (Int × Unit)))))))))) :=
  (row, (c.1, (c.2.1, (c.2.2.1, (c.2.2.2.1, (c.2.2.2.2.1, (c.2.2.2.2.2.1, (c.2.2.2.2.2.2, (s.2.2.2.2, (((s.2.2.2.2.length : Nat) : Int), (i, ())))))))))))
theorem sNear_ok (a : CoD × (StD × List Su.Pr)) (y : Bool) (hg : (dc cCo (dc cSt (d1 (cL rPr)))).good a) (h : sNear_s a = some y) : ∃ n, sNear n a.1 a.2.1 a.2.2 = some y := by
  obtain ⟨c, s, row⟩ := a
  obtain ⟨hm, h⟩ := bif_some h
  have := soi h; subst this
  have hm : row.all okP = true := hm
  have hl : c.cells.length ≤ maxLen := hg.1.2.1.2
  have hgr : ∀ p ∈ row, dPrP.good (frPr p) := hg.2.2.1
  show ∃ n, sNear n c s row = some (nearS c s row)
  unfold sNear nearS
  cases hd : s.1 with
  | true => exact ⟨0, rfl⟩
  | false =>
  have hI : ∀ a b : Nat, decide ((a : Int) = (b : Int)) = decide (a = b) := nat_eq
  simp only [hI, nbeq, cond_true, cond_false, Option.bind_some]
  by_cases h1 : s.2.2.2.2.length = c.2.1.length
  · by_cases h2 : row.length = c.2.1.length
    · rw [decide_eq_true h1, decide_eq_true h2]
      simp only [Bool.not_true, cond_false]
      have step : ∀ i, i < c.2.1.length → sNear_l1 (nearMk c s row (i : Int)) = some (bif nearN c.2.1 s.2.2.2.2 row i then .inl (nearMk c s row ((i + 1 : Nat) : Int)) else .inr (.ret false)) := by
        intro i hi
        have i1 : i < s.2.2.2.2.length := by omega
        have i2 : i < row.length := by omega
        unfold nearN nearC
        rw [List.getElem?_eq_getElem hi, List.getElem?_eq_getElem i1, List.getElem?_eq_getElem i2]
        simp only [sNear_l1, ltN, ixl i1, ixl hi, ixl i2, Option.bind_some, nbeq, cond_true, w1 hi hl, PVal_of, decide_eq_true i1]
        have ho := List.all_eq_true.1 hm _ (List.getElem_mem i2)
        have hz := okP_sz ho (hgr _ (List.getElem_mem i2))
        generalize row[i] = p at *
        generalize c.2.1[i] = d at *
        generalize s.2.2.2.2[i] = x at *
        cases decide (d.type = 3) with
        | false => simp
        | true =>
          cases hn : noNum (gdF x.sl).toNat with
          | true => simp
          | false =>
            cases hk : p.known with
            | false => simp
            | true =>
              cases hv : noNum p.v.f.toNat with
              | true => simp
              | false =>
                obtain ⟨a1, a2⟩ := sub_of ((valR_sz p.v.f.toNat).mono (by omega)) hz
                obtain ⟨b1, b2⟩ := abs_of a2
                have c1 := cmp_of (b2.mono (by omega)) ((valR_sz (gdF x.sl).toNat).mono (by omega : 66 ≤ 400000))
                unfold Pr.real at a1 b1 c1
                simp only [Bool.not_true, Bool.not_false, cond_false, cond_true, Bool.and_true, Bool.true_and]
                refine obB a1 (obB b1 (obB c1 ?_))
                unfold Pr.real
                cases decide (0 < rcmp (rabs (rsub (valR p.v.f.toNat) (p.neg, (p.num, p.den)))) (valR (gdF x.sl).toNat)) <;> rfl
      have hK := runs_all (F := sNear_l1) (mk := fun i => nearMk c s row (i : Int)) (n := c.2.1.length) (ok := nearN c.2.1 s.2.2.2.2 row) (r1 := .ret false) (r0 := .exit 0 (nearMk c s row (c.2.1.length : Int)))
        (fun i hi hk => by rw [step i hi, hk]; rfl) (fun i hi hk => by rw [step i hi, hk]; rfl)
        (by simp only [sNear_l1, ltN, decide_eq_false (show ¬ c.2.1.length < s.2.2.2.2.length by omega), nbeq, cond_true, cond_false, Option.bind_some])
      refine ⟨c.2.1.length + 1, ?_⟩
      refine obB (hK _ (Nat.le_refl _)) ?_
      show _ = some (allN c.2.1.length (nearN c.2.1 s.2.2.2.2 row))
      cases allN c.2.1.length (nearN c.2.1 s.2.2.2.2 row) <;> rfl
    · rw [decide_eq_true h1, decide_eq_false h2]; exact ⟨0, rfl⟩
  · rw [decide_eq_false h1]; exact ⟨0, rfl⟩
def heavyN (X : List Su.Ce) (j : Nat) : Bool := match X[j]? with
  | some x => !decide (8 < ((x.fm.2.2.1.length : Nat) : Int))
  | none => true
def heavyM (l : List StD) (i : Nat) : Bool := match l[i]? with
  | some s => !decide (40 < (s.cells.length : Int)) && allN s.cells.length (heavyN s.cells)
  | none => true
def heavyS (c : CoD) (l : List StD) : Bool := bif decide (40 < (c.cells.length : Int)) then true else !allN l.length (heavyM l)
def heavy_s (a : CoD × List StD) : Option Bool := some (heavyS a.1 a.2)
theorem heavy_in (l : List StD) (hl : l.length ≤ maxLen) {i : Nat} (hi : i < l.length) (hx : l[i].cells.length ≤ maxLen) :
    Runs (l[i].cells.length + 1) heavy_l2 (l, ((i : Int), ((0 : Int), ()))) (bif allN l[i].cells.length (heavyN l[i].cells) then .exit 2 (l, ((i : Int), ((l[i].cells.length : Int), ()))) else .ret (.inr (.ret true))) := by
  have step : ∀ j, j < l[i].cells.length → heavy_l2 (l, ((i : Int), ((j : Int), ()))) = some (bif heavyN l[i].cells j then .inl (l, ((i : Int), (((j + 1 : Nat) : Int), ()))) else .inr (.ret (.inr (.ret true)))) := by
    intro j hj
    unfold heavyN
    rw [List.getElem?_eq_getElem hj]
    simp only [heavy_l2, ixl hi, Option.bind_some, ltN, decide_eq_true hj, cond_true]
    rw [ixl hj]
    simp only [Option.bind_some, w1 hj hx]
    generalize l[i].cells[j] = x
    have e : x.8.2.2.1 = x.fm.2.2.1 := rfl
    rw [e]
    cases decide (8 < ((x.fm.2.2.1.length : Nat) : Int)) <;> rfl
  exact runs_all (F := heavy_l2) (mk := fun j => (l, ((i : Int), ((j : Int), ())))) (n := l[i].cells.length) (ok := heavyN l[i].cells) (fun j hj hk => by rw [step j hj, hk]; rfl) (fun j hj hk => by rw [step j hj, hk]; rfl)
    (by simp only [heavy_l2, ixl hi, Option.bind_some, ltN, decide_eq_false (Nat.lt_irrefl _), cond_false])
theorem heavy_ok (a : CoD × List StD) (y : Bool) (hg : (dc cCo (d1 (cL rSt))).good a) (h : heavy_s a = some y) : ∃ n, heavy n a.1 a.2 = some y := by
  obtain ⟨c, l⟩ := a
  have := soi h; subst this
  have hl : l.length ≤ maxLen := hg.2.2
  have hx : ∀ s ∈ l, s.cells.length ≤ maxLen := fun s hs => (hg.2.1 s hs).2.2.2.2.2
  show ∃ n, heavy n c l = some (heavyS c l)
  unfold heavy heavyS
  cases decide (40 < ((c.2.1.length : Nat) : Int)) with
  | true => exact ⟨0, rfl⟩
  | false =>
    simp only [cond_false]
    have step : ∀ i, i < l.length → heavy_l1 (maxLen + 1) (l, ((i : Int), ())) = some (bif heavyM l i then .inl (l, (((i + 1 : Nat) : Int), ())) else .inr (.ret true)) := by
      intro i hi
      have h1 := hx _ (List.getElem_mem hi)
      have h2 := heavy_in l hl hi h1 (maxLen + 1) (by omega)
      unfold heavyM
      rw [List.getElem?_eq_getElem hi]
      simp only [heavy_l1, ltN, decide_eq_true hi, cond_true, ixl hi, Option.bind_some, h2, w1 hi hl]
      generalize l[i] = s
      show (bif decide (40 < (s.cells.length : Int)) then _ else _) = _
      cases decide (40 < (s.cells.length : Int)) with
      | true => rfl
      | false =>
        cases allN s.cells.length (heavyN s.cells) with
        | false => rfl
        | true =>
          simp only [cond_true, cond_false, Bool.not_false, Bool.true_and, nbeq, w1 hi hl]
    have run := runs_all (F := heavy_l1 (maxLen + 1)) (mk := fun i => (l, ((i : Int), ()))) (n := l.length) (ok := heavyM l) (r1 := .ret true) (r0 := .exit 0 (l, (((l.length : Nat) : Int), ()))) (fun i hi hk => by rw [step i hi, hk]; rfl) (fun i hi hk => by rw [step i hi, hk]; rfl)
      (by simp only [heavy_l1, ltN, decide_eq_false (Nat.lt_irrefl _), cond_false])
    refine ⟨maxLen + 1, ?_⟩
    rw [show ((0 : Int)) = ((0 : Nat) : Int) from rfl, run _ (by omega)]
    show _ = some (!allN l.length (heavyM l))
    cases allN l.length (heavyM l) <;> rfl
end
end Su
end
