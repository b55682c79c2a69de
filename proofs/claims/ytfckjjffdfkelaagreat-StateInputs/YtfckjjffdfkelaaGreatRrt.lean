/-
  Bits and rounding, in plain Lean. No condition.
-/
import Derived.Test.YtfckjjffdfkelaaGreatNB10
import Derived.Test.YtfckjjffdfkelaaGreatSuSd
import Derived.Test.YtfckjjffdfkelaaGreatNB19
import Derived.Test.YtfckjjffdfkelaaGreatNC15
set_option maxRecDepth 10000
section
namespace Su
open Go Fly
set_option linter.unusedVariables false
noncomputable section
def mkQ (p : Int) (q : Nat) : Rt := lowR (decide (p < 0)) p.natAbs q
def sv (a : Rt) : Int := bif a.1 then -(nu a : Int) else (nu a : Int)
theorem low_zero (neg : Bool) (d : Nat) : lowR neg 0 d = (false, ([], ofN 1)) := by rw [lowR_eq]; unfold lowR'; rw [if_pos (.inl rfl)]
theorem low_scale (neg : Bool) (n d : Nat) {k : Nat} (hk : 0 < k) : lowR neg (n * k) (d * k) = lowR neg n d := by
 rw [lowR_eq, lowR_eq]
 unfold lowR'
 by_cases h : n = 0 ∨ d = 0
 · rw [if_pos h, if_pos (by rcases h with h | h <;> simp [h])]
 · have h1 : n ≠ 0 := fun e => h (.inl e)
   have h2 : d ≠ 0 := fun e => h (.inr e)
   have h3 : ¬ (n * k = 0 ∨ d * k = 0) := by
    intro e
    rcases e with e | e
    · rcases Nat.mul_eq_zero.1 e with e | e <;> omega
    · rcases Nat.mul_eq_zero.1 e with e | e <;> omega
   rw [if_neg h, if_neg h3, Nat.gcd_mul_right, Nat.mul_div_mul_right _ _ hk, Nat.mul_div_mul_right _ _ hk]
theorem low_parts (neg : Bool) (n : Nat) {d : Nat} (hd : 0 < d) : ∃ g, 0 < g ∧ n = g * nu (lowR neg n d) ∧ d = g * de (lowR neg n d) ∧ (lowR neg n d).1 = (neg && decide (n ≠ 0)) := by
 by_cases h : n = 0
 · subst h
   rw [low_zero]
   refine ⟨d, hd, ?_, ?_, by simp⟩
   · show 0 = d * valN []; simp [valN]
   · show d = d * valN (ofN 1); rw [valN_ofN]; omega
 · rw [lowR_eq]
   unfold lowR'
   rw [if_neg (by omega)]
   refine ⟨Nat.gcd n d, Nat.gcd_pos_of_pos_right _ hd, ?_, ?_, by simp [h]⟩
   · show n = _ * valN (ofN _); rw [valN_ofN]; exact (Nat.mul_div_cancel' (Nat.gcd_dvd_left _ _)).symm
   · show d = _ * valN (ofN _); rw [valN_ofN]; exact (Nat.mul_div_cancel' (Nat.gcd_dvd_right _ _)).symm
theorem mk_scale (p : Int) (q : Nat) {k : Nat} (hk : 0 < k) : mkQ (p * k) (q * k) = mkQ p q := by
 unfold mkQ
 have e1 : (p * (k : Int)).natAbs = p.natAbs * k := by rw [Int.natAbs_mul]; rfl
 have e2 : decide (p * (k : Int) < 0) = decide (p < 0) := by
  have hk' : (0 : Int) < k := by omega
  by_cases h : p < 0
  · rw [decide_eq_true h, decide_eq_true (Int.mul_neg_of_neg_of_pos h hk')]
  · rw [decide_eq_false h, decide_eq_false]
    have := Int.mul_nonneg (a := p) (b := k) (by omega) (by omega)
    omega
 rw [e1, e2, low_scale _ _ _ hk]
theorem mk_parts (p : Int) {q : Nat} (hq : 0 < q) : ∃ g : Nat, 0 < g ∧ p = g * sv (mkQ p q) ∧ q = g * de (mkQ p q) ∧ 0 < de (mkQ p q) := by
 obtain ⟨g, h0, h1, h2, h3⟩ := low_parts (decide (p < 0)) p.natAbs hq
 refine ⟨g, h0, ?_, h2, Nat.pos_of_ne_zero fun e => ?_⟩
 · unfold sv
   have h4 : (mkQ p q).1 = decide (p < 0) := by
    show (lowR _ _ _).1 = _
    rw [h3]
    by_cases h : p < 0
    · rw [decide_eq_true h, decide_eq_true (by omega)]; rfl
    · rw [decide_eq_false h]; rfl
   rw [h4]
   have h5 : p.natAbs = g * nu (mkQ p q) := h1
   have h6 : ((g * nu (mkQ p q) : Nat) : Int) = (g : Int) * (nu (mkQ p q) : Int) := by simp
   by_cases h : p < 0
   · rw [decide_eq_true h, cond_true, Int.mul_neg, ← h6, ← h5]; omega
   · rw [decide_eq_false h, cond_false, ← h6, ← h5]; omega
 · have h2' : q = g * de (mkQ p q) := h2
   rw [e] at h2'; omega
theorem low_mk (neg : Bool) (n d : Nat) : lowR neg n d = mkQ (bif neg then -(n : Int) else (n : Int)) d := by
 unfold mkQ
 by_cases h : n = 0
 · subst h
   cases neg <;> simp [low_zero]
 · cases neg with
   | true => rw [cond_true, decide_eq_true (by omega), Int.natAbs_neg, Int.natAbs_natCast]
   | false => rw [cond_false, decide_eq_false (by omega), Int.natAbs_natCast]
theorem rlow_sv (a : Rt) : rlow a = mkQ (sv a) (de a) := low_mk _ _ _
theorem mk_low (p : Int) {q : Nat} (hq : 0 < q) : mkQ (sv (mkQ p q)) (de (mkQ p q)) = mkQ p q := by
 obtain ⟨g, h0, h1, h2, h3⟩ := mk_parts p hq
 have := mk_scale (sv (mkQ p q)) (de (mkQ p q)) h0
 rw [Int.mul_comm, ← h1, Nat.mul_comm, ← h2] at this
 exact this.symm
theorem rlow_mk (p : Int) {q : Nat} (hq : 0 < q) : rlow (mkQ p q) = mkQ p q := by rw [rlow_sv, mk_low p hq]
theorem low_sum (b c : Bool) (n m d : Nat) : (bif decide (b = c) then lowR b (n + m) d else bif decide (m ≤ n) then lowR b (n - m) d else lowR c (m - n) d) = mkQ ((bif b then -(n : Int) else (n : Int)) + (bif c then -(m : Int) else (m : Int))) d := by
 cases b <;> cases c
 · rw [decide_eq_true rfl, cond_true, low_mk]; congr 1
 · rw [decide_eq_false (by simp), cond_false]
   by_cases h : m ≤ n
   · rw [decide_eq_true h, cond_true, low_mk]; congr 1; simp only [cond_false, cond_true]; omega
   · rw [decide_eq_false h, cond_false, low_mk]; congr 1; simp only [cond_false, cond_true]; omega
 · rw [decide_eq_false (by simp), cond_false]
   by_cases h : m ≤ n
   · rw [decide_eq_true h, cond_true, low_mk]; congr 1; simp only [cond_false, cond_true]; omega
   · rw [decide_eq_false h, cond_false, low_mk]; congr 1; simp only [cond_false, cond_true]; omega
 · rw [decide_eq_true rfl, cond_true, low_mk]; congr 1; simp only [cond_true]; omega
theorem sgn_mul (b : Bool) (n k : Nat) : (bif b then -((n * k : Nat) : Int) else ((n * k : Nat) : Int)) = (bif b then -(n : Int) else (n : Int)) * k := by
 cases b
 · simp
 · simp only [cond_true, Int.neg_mul]; simp
theorem rsum_sv (x y : Rt) : rsum x y = mkQ (sv x * de y + sv y * de x) (de x * de y) := by
 unfold rsum
 rw [low_sum, sgn_mul, sgn_mul]; rfl
theorem radd_mk (p r : Int) {q s : Nat} (hq : 0 < q) (hs : 0 < s) : radd (mkQ p q) (mkQ r s) = mkQ (p * s + r * q) (q * s) := by
 unfold radd
 rw [rlow_mk p hq, rlow_mk r hs, rsum_sv]
 obtain ⟨g, h0, h1, h2, h3⟩ := mk_parts p hq
 obtain ⟨h, k0, k1, k2, k3⟩ := mk_parts r hs
 generalize mkQ p q = x at *
 generalize mkQ r s = y at *
 rw [← mk_scale _ _ (Nat.mul_pos h0 k0)]
 have e1 : de x * de y * (g * h) = q * s := by rw [h2, k2]; grind
 have e2 : (sv x * de y + sv y * de x) * ((g * h : Nat) : Int) = p * s + r * q := by
  have a2 : (q : Int) = g * de x := by rw [h2]; simp
  have b2 : (s : Int) = h * de y := by rw [k2]; simp
  rw [a2, b2, h1, k1]
  simp only [Int.natCast_mul]
  grind
 rw [e1, e2]
theorem rneg_mk (p : Int) {q : Nat} (hq : 0 < q) : rneg (mkQ p q) = mkQ (-p) q := by
 unfold rneg
 rw [low_mk]
 obtain ⟨g, h0, h1, h2, h3⟩ := mk_parts p hq
 have e : (bif !(mkQ p q).1 then -(valN (mkQ p q).2.1 : Int) else (valN (mkQ p q).2.1 : Int)) = -(sv (mkQ p q)) := by
  unfold sv nu
  cases (mkQ p q).1 <;> simp
 rw [e]
 generalize mkQ p q = x at *
 rw [← mk_scale _ _ h0, h1]
 have e1 : valN x.2.2 * g = q := by rw [h2, Nat.mul_comm]; rfl
 rw [e1]
 congr 1
 rw [Int.neg_mul, Int.mul_comm]
theorem rsub_mk (p r : Int) {q s : Nat} (hq : 0 < q) (hs : 0 < s) : rsub (mkQ p q) (mkQ r s) = mkQ (p * s - r * q) (q * s) := by
 unfold rsub
 rw [rneg_mk r hs, radd_mk p (-r) hq hs, Int.neg_mul]; rfl
theorem rabs_mk (p : Int) {q : Nat} (hq : 0 < q) : rabs (mkQ p q) = mkQ (p.natAbs : Int) q := by
 unfold rabs
 rw [low_mk]
 obtain ⟨g, h0, h1, h2, h3⟩ := mk_parts p hq
 have e : p.natAbs = g * nu (mkQ p q) := by
  have h5 : p.natAbs = (g * sv (mkQ p q)).natAbs := congrArg Int.natAbs h1
  rw [h5, Int.natAbs_mul, Int.natAbs_natCast]
  congr 1
  unfold sv
  generalize mkQ p q = x
  cases x.1 <;> simp
 generalize mkQ p q = x at *
 rw [e, ← mk_scale _ _ h0]
 have e1 : valN x.2.2 * g = q := by rw [h2, Nat.mul_comm]; rfl
 rw [e1, cond_false]
 congr 1
 simp only [Int.natCast_mul]
 rw [Int.mul_comm]; rfl
def cmpQ (p r : Int) : Int := if p < r then -1 else if p = r then 0 else 1
theorem cmpQ_scale (p r : Int) {k : Nat} (hk : 0 < k) : cmpQ (p * k) (r * k) = cmpQ p r := by
 unfold cmpQ
 have hk' : (0 : Int) < k := by omega
 have e1 : p * (k : Int) < r * k ↔ p < r := Int.mul_lt_mul_right hk'
 have e2 : p * (k : Int) = r * k ↔ p = r := Int.mul_eq_mul_right_iff (by omega)
 simp only [e1, e2]
theorem cmpI_Q (a b : Nat) : cmpI a b = cmpQ a b := by
 unfold cmpI cmpQ
 simp only [Int.ofNat_lt, Int.ofNat_inj]
theorem rcm_sv (x y : Rt) (hx : 0 < de x) (hy : 0 < de y) (zx : x.1 = true → nu x ≠ 0) (zy : y.1 = true → nu y ≠ 0) : rcm x y = cmpQ (sv x * de y) (sv y * de x) := by
 unfold rcm sv
 have hx' : (0 : Int) < de x := by omega
 have hy' : (0 : Int) < de y := by omega
 have p1 : (0 : Int) ≤ nu x * de y := Int.mul_nonneg (by omega) (by omega)
 have p2 : (0 : Int) ≤ nu y * de x := Int.mul_nonneg (by omega) (by omega)
 cases hxs : x.1 <;> cases hys : y.1
 · simp only [decide_true, Bool.not_true, cond_false, cmpI_Q, Int.natCast_mul]
 · have h2 : 0 < nu y := Nat.pos_of_ne_zero (zy hys)
   have p3 : (0 : Int) < nu y * de x := Int.mul_pos (by omega) hx'
   simp only [cond_true, cond_false, Int.neg_mul]
   unfold cmpQ
   rw [if_neg (by omega), if_neg (by omega)]; rfl
 · have h2 : 0 < nu x := Nat.pos_of_ne_zero (zx hxs)
   have p3 : (0 : Int) < nu x * de y := Int.mul_pos (by omega) hy'
   simp only [cond_true, cond_false, Int.neg_mul]
   unfold cmpQ
   rw [if_pos (by omega)]; rfl
 · simp only [decide_true, Bool.not_true, cond_false, cond_true, cmpI_Q, Int.natCast_mul, Int.neg_mul]
   generalize (nu x : Int) * de y = a
   generalize (nu y : Int) * de x = b
   unfold cmpQ
   split
   · rw [if_neg (by omega), if_neg (by omega)]; rfl
   · split
     · rw [if_neg (by omega), if_pos (by omega)]; rfl
     · rw [if_pos (by omega)]
theorem mk_sign (p : Int) {q : Nat} (hq : 0 < q) : (mkQ p q).1 = true → nu (mkQ p q) ≠ 0 := by
 intro h e
 obtain ⟨g, h0, h1, h2, h3⟩ := low_parts (decide (p < 0)) p.natAbs hq
 have h4 : (mkQ p q).1 = (decide (p < 0) && decide (p.natAbs ≠ 0)) := h3
 have h5 : p.natAbs = g * nu (mkQ p q) := h1
 rw [e, Nat.mul_zero] at h5
 rw [h5] at h4
 rw [h4] at h
 simp at h
theorem rcmp_mk (p r : Int) {q s : Nat} (hq : 0 < q) (hs : 0 < s) : rcmp (mkQ p q) (mkQ r s) = cmpQ (p * s) (r * q) := by
 unfold rcmp
 rw [rlow_mk p hq, rlow_mk r hs]
 have z1 := mk_sign p hq
 have z2 := mk_sign r hs
 obtain ⟨g, h0, h1, h2, h3⟩ := mk_parts p hq
 obtain ⟨h, k0, k1, k2, k3⟩ := mk_parts r hs
 generalize mkQ p q = x at *
 generalize mkQ r s = y at *
 rw [rcm_sv x y h3 k3 z1 z2, ← cmpQ_scale _ _ (Nat.mul_pos h0 k0)]
 have a2 : (q : Int) = g * de x := by rw [h2]; simp
 have b2 : (s : Int) = h * de y := by rw [k2]; simp
 have e1 : sv x * de y * ((g * h : Nat) : Int) = p * s := by
  rw [b2, h1]; simp only [Int.natCast_mul]; grind
 have e2 : sv y * de x * ((g * h : Nat) : Int) = r * q := by
  rw [a2, k1]; simp only [Int.natCast_mul]; grind
 rw [e1, e2]
structure Sz (a : Rt) (k : Nat) : Prop where
 wn : Wd a.2.1
 wd : Wd a.2.2
 ln : a.2.1.length ≤ k
 ld : a.2.2.length ≤ k
theorem low_sz {neg : Bool} {n d k : Nat} (h1 : n < 4294967296 ^ k) (h2 : d < 4294967296 ^ k) (hk : 1 ≤ k) : Sz (lowR neg n d) k := by
 rw [lowR_eq]
 unfold lowR'
 by_cases h : n = 0 ∨ d = 0
 · rw [if_pos h]
   exact ⟨.nil, Wd_ofN 1, Nat.zero_le _, Nat.le_trans (ofN_len (v := 1) (k := 1) (by decide)) hk⟩
 · rw [if_neg h]
   exact ⟨Wd_ofN _, Wd_ofN _, ofN_len (Nat.lt_of_le_of_lt (Nat.div_le_self _ _) h1), ofN_len (Nat.lt_of_le_of_lt (Nat.div_le_self _ _) h2)⟩
theorem Sz.nu {a : Rt} {k : Nat} (h : Sz a k) : Su.nu a < 4294967296 ^ k := Nat.lt_of_lt_of_le (valN_lt _ h.wn) (Nat.pow_le_pow_right (by omega) h.ln)
theorem Sz.de {a : Rt} {k : Nat} (h : Sz a k) : Su.de a < 4294967296 ^ k := Nat.lt_of_lt_of_le (valN_lt _ h.wd) (Nat.pow_le_pow_right (by omega) h.ld)
theorem Sz.mono {a : Rt} {k m : Nat} (h : Sz a k) (hm : k ≤ m) : Sz a m := ⟨h.wn, h.wd, Nat.le_trans h.ln hm, Nat.le_trans h.ld hm⟩
theorem Sz.ok4 {a : Rt} {k : Nat} (h : Sz a k) (hk : k ≤ 400000) : Su.ok4 a = true := by
 unfold Su.ok4
 rw [Nat.ble_eq_true_of_le (Nat.le_trans h.ln hk), Nat.ble_eq_true_of_le (Nat.le_trans h.ld hk)]; rfl
theorem Sz.okRt {a : Rt} {k : Nat} (h : Sz a k) (hk : k ≤ 1000000) : Su.okRt a = true := by
 unfold Su.okRt okL
 rw [Nat.ble_eq_true_of_le (Nat.le_trans h.ln hk), Nat.ble_eq_true_of_le (Nat.le_trans h.ld hk)]; rfl
theorem rlow_sz {a : Rt} {k : Nat} (h : Sz a k) (hk : 1 ≤ k) : Sz (rlow a) k := low_sz h.nu h.de hk
theorem rneg_sz {a : Rt} {k : Nat} (h : Sz a k) (hk : 1 ≤ k) : Sz (rneg a) k := low_sz h.nu h.de hk
theorem rabs_sz {a : Rt} {k : Nat} (h : Sz a k) (hk : 1 ≤ k) : Sz (rabs a) k := low_sz h.nu h.de hk
theorem mul_pow {a b k m : Nat} (h1 : a < 4294967296 ^ k) (h2 : b < 4294967296 ^ m) : a * b < 4294967296 ^ (k + m) := by
 rw [Nat.pow_add]; exact Nat.mul_lt_mul'' h1 h2
theorem rsum_sz {x y : Rt} {k m : Nat} (h : Sz x k) (h' : Sz y m) : Sz (rsum x y) (k + m + 1) := by
 have p1 := mul_pow h.nu h'.de
 have p2 := mul_pow h.de h'.nu
 have p3 := mul_pow h.de h'.de
 rw [Nat.mul_comm] at p2
 have p4 : 4294967296 ^ (k + m + 1) = 4294967296 ^ (k + m) * 4294967296 := Nat.pow_succ ..
 unfold rsum
 generalize nu x * de y = A at *
 generalize nu y * de x = B at *
 generalize de x * de y = C at *
 generalize 4294967296 ^ (k + m) = P at *
 cases decide (x.1 = y.1) with
 | true => exact low_sz (by omega) (by omega) (by omega)
 | false =>
  cases decide (B ≤ A) with
  | true => exact low_sz (by omega) (by omega) (by omega)
  | false => exact low_sz (by omega) (by omega) (by omega)
theorem radd_sz {a b : Rt} {k m : Nat} (h : Sz a k) (h' : Sz b m) (hk : 1 ≤ k) (hm : 1 ≤ m) : Sz (radd a b) (k + m + 1) := rsum_sz (rlow_sz h hk) (rlow_sz h' hm)
theorem rsub_sz {a b : Rt} {k m : Nat} (h : Sz a k) (h' : Sz b m) (hk : 1 ≤ k) (hm : 1 ≤ m) : Sz (rsub a b) (k + m + 1) := radd_sz h (rneg_sz h' hm) hk hm
theorem mk_sz {p : Int} {q k : Nat} (h1 : p.natAbs < 4294967296 ^ k) (h2 : q < 4294967296 ^ k) (hk : 1 ≤ k) : Sz (mkQ p q) k := low_sz h1 h2 hk
@[irreducible] def EX : Nat := 1074
theorem EX_eq : EX = 1074 := by unfold EX; rfl
@[irreducible] def BX : Nat := 2098
theorem BX_eq : BX = 2098 := by unfold BX; rfl
@[irreducible] def QD : Nat := 2 ^ EX
theorem QD_eq : QD = 2 ^ EX := by unfold QD; rfl
theorem QD_pos : 0 < QD := by rw [QD_eq]; exact Nat.two_pow_pos _
def fvK (b : Bool) (k : Nat) : Int := bif finK k then (bif b then -(kV k : Int) else (kV k : Int)) else 0
def fv (f : Nat) : Int := fvK (bS f) (bK f)
theorem kM_lt (k : Nat) : kM k < 9007199254740992 := by unfold kM; split <;> omega
theorem valR_mk (f : Nat) : valR f = mkQ (fv f) QD := by
 unfold valR fv fvK
 rw [dyV_eq]
 unfold dyV' spM spE
 generalize bS f = b
 generalize bK f = k
 cases hf : finK k with
 | false =>
  simp only [cond_false, Bool.false_and]
  rw [if_neg (by omega)]
  show lowR b _ _ = _
  unfold mkQ
  simp [low_zero]
 | true =>
  have hk := finK_iff.1 hf
  simp only [cond_true, Bool.true_and]
  by_cases h0 : k = 0
  · subst h0
    rw [show Nat.beq 0 0 = true from rfl]
    simp only [Bool.not_true, cond_false]
    rw [if_neg (by omega)]
    have e1 : kV 0 = 0 := rfl
    have e2 : kM 0 = 0 := rfl
    rw [e1, e2]
    unfold mkQ
    cases b <;> simp [low_zero]
  · have hb : Nat.beq k 0 = false := by
     cases h : Nat.beq k 0 with
     | false => rfl
     | true => exact absurd (Nat.eq_of_beq_eq_true h) h0
    rw [hb]
    simp only [Bool.not_false, cond_true]
    have hE : kE k ≤ 2045 := by unfold kE; omega
    rw [if_neg (by omega)]
    show lowR b (Int.toNat (kM k : Int) * 2 ^ (max ((kE k : Int) - 1074) 0).toNat) (2 ^ (max (-((kE k : Int) - 1074)) 0).toNat) = _
    rw [Int.toNat_natCast, ← low_mk]
    unfold kV
    rw [QD_eq]
    have hX := EX_eq
    by_cases h : EX ≤ kE k
    · have e1 : (max ((kE k : Int) - 1074) 0).toNat = kE k - EX := by omega
      have e2 : (max (-((kE k : Int) - 1074)) 0).toNat = 0 := by omega
      rw [e1, e2, ← low_scale b _ _ (Nat.two_pow_pos EX), Nat.mul_assoc, ← Nat.pow_add, ← Nat.pow_add, Nat.sub_add_cancel h, Nat.zero_add]
    · have e1 : (max ((kE k : Int) - 1074) 0).toNat = 0 := by omega
      have e2 : (max (-((kE k : Int) - 1074)) 0).toNat = EX - kE k := by omega
      rw [e1, e2, ← low_scale b _ _ (Nat.two_pow_pos (kE k)), Nat.mul_assoc, ← Nat.pow_add, ← Nat.pow_add, Nat.sub_add_cancel (by omega), Nat.zero_add]
theorem kV_lt_pow {k : Nat} (h : k ≤ 9218868437227405311) : kV k < 2 ^ BX := by
 have h1 : kM k < 2 ^ 53 := kM_lt k
 have h2 : kE k + 53 ≤ BX := by rw [BX_eq]; unfold kE; omega
 unfold kV
 have h3 := Nat.mul_lt_mul_of_pos_right h1 (Nat.two_pow_pos (kE k))
 rw [← Nat.pow_add] at h3
 exact Nat.lt_of_lt_of_le h3 (Nat.pow_le_pow_right (by omega) (by omega))
theorem fv_abs (f : Nat) : (fv f).natAbs < 2 ^ BX := by
 unfold fv fvK
 cases hf : finK (bK f) with
 | false => exact Nat.two_pow_pos _
 | true =>
  have := kV_lt_pow (finK_iff.1 hf)
  simp only [cond_true]
  cases bS f
  · simpa using this
  · simpa using this
theorem valR_sz (f : Nat) : Sz (valR f) 66 := by
 have h1 := BX_eq
 have h2 := EX_eq
 rw [valR_mk]
 refine mk_sz ?_ ?_ (by omega)
 · rw [pow32, show 32 * 66 = BX + 14 by omega]; exact Nat.lt_of_lt_of_le (fv_abs f) (Nat.pow_le_pow_right (by omega) (by omega))
 · rw [QD_eq, pow32, show 32 * 66 = EX + 1038 by omega]; exact Nat.pow_lt_pow_right (by omega) (by omega)
theorem PVal_of (f : Int) : PVal_s f = some (bif noNum f.toNat then ((false, ([], [])), false) else (valR f.toNat, true)) := by
 unfold PVal_s
 rw [okS_nil, cond_true]
theorem sub_of {a b : Rt} (h1 : Sz a 100000) (h2 : Sz b 100000) : RSub_s (a, b) = some (rsub a b) ∧ Sz (rsub a b) 200001 :=
 ⟨by unfold RSub_s; simp only []; rw [h1.ok4 (by omega), h2.ok4 (by omega)]; rfl, rsub_sz h1 h2 (by omega) (by omega)⟩
theorem abs_of {a : Rt} (h1 : Sz a 200001) : RAbs_s a = some (rabs a) ∧ Sz (rabs a) 200001 :=
 ⟨by unfold RAbs_s; rw [h1.okRt (by omega)]; rfl, rabs_sz h1 (by omega)⟩
theorem cmp_of {a b : Rt} (h1 : Sz a 400000) (h2 : Sz b 400000) : RCmp_s (a, b) = some (rcmp a b) := by
 unfold RCmp_s; simp only []; rw [h1.ok4 (by omega), h2.ok4 (by omega)]; rfl
end
end Su
end
section
namespace Su
open Go Fly
set_option linter.unusedVariables false
noncomputable section
def aSize  (f : Int) : Option (Bool × ((List Int) × (List Int))) :=
 ((Su.PVal_s (((Su.absF (Int.toNat f)) : Nat) : Int))).bind fun x0 =>
 some x0.1
def sizeF (f : Int) : Rt := bif noNum (absF f.toNat) then (false, ([], [])) else valR (absF f.toNat)
def aSize_s (f : Int) : Option Rt := bif okS [] then some (sizeF f) else none
theorem aSize_ok (f : Int) (y : Rt) (hg : (d1 (cI .u64)).good f) (h : aSize_s f = some y) : aSize f = some y := by
 obtain ⟨_, h⟩ := bif_some h
 have := soi h; subst this
 refine obB (PVal_of _) ?_
 unfold sizeF
 rw [Int.toNat_natCast]
 cases noNum (absF f.toNat) <;> rfl
end
end Su
end
section
namespace Su
open Go Fly
set_option linter.unusedVariables false
noncomputable section
structure Fin4 (a : Su.Fm) : Prop where
 mid : fI a.2.1 = true
 err : fI a.2.2.2 = true
 tms : ∀ t ∈ a.2.2.1, fI t.c = true
theorem rise_fin : ∀ {l : List Tm} {k : Int}, riseF k l = true → ∀ t ∈ l, fI t.c = true
 | [], _, _, t, ht => by cases ht
 | x :: l, k, h, t, ht => by
  simp only [riseF, Bool.and_eq_true] at h
  rcases List.mem_cons.1 ht with rfl | ht
  · exact h.2.2.1
  · exact rise_fin h.2.2.2 t ht
theorem okF_fin {a : Su.Fm} (h : okF a = true) : a.1 = false ∧ Fin4 a := by
 unfold okF at h
 simp only [Bool.not_eq_true', Bool.or_eq_false_iff, Bool.not_eq_false'] at h
 obtain ⟨h1, h2⟩ := h
 rw [mayF_eq, h1, cond_false] at h2
 simp only [Bool.and_eq_true] at h2
 exact ⟨h1, ⟨h2.2.1, h2.2.2.2.1, rise_fin h2.1⟩⟩
def avF (c : Int) : Nat := (fv c.toNat).natAbs
def sumN : List Tm → Nat → Nat
 | [], s => s
 | t :: l, s => sumN l (s + avF t.c)
def radN (a : Su.Fm) : Nat := sumN a.2.2.1 (avF a.2.2.2)
theorem fin_num (f : Nat) : finK (bK f) = !noNum f := by
 unfold noNum
 rw [← cls_fin]
 cases decide (((clsK (bK f) : Nat) : Int) = 3) <;> cases decide (((clsK (bK f) : Nat) : Int) = 4) <;> rfl
theorem fin_fI {c : Int} (h : fI c = true) : noNum c.toNat = false := by
 have := fin_num c.toNat
 unfold fI at h
 rw [h] at this
 cases hn : noNum c.toNat with
 | false => rfl
 | true => rw [hn] at this; cases this
theorem bK_bK (f : Nat) : bK (bK f) = bK f := Nat.mod_mod _ _
theorem bS_bK (f : Nat) : bS (bK f) = false := bS_not.2 (bK_lt f)
theorem avF_lt (c : Int) : avF c < 2 ^ BX := fv_abs _
theorem sumN_lt : ∀ (l : List Tm) (s k : Nat), s < k * 2 ^ BX → sumN l s < (k + l.length) * 2 ^ BX
 | [], s, k, h => h
 | t :: l, s, k, h => by
  have h1 := avF_lt t.c
  have := sumN_lt l (s + avF t.c) (k + 1) (by rw [Nat.add_mul]; omega)
  rw [List.length_cons, show k + (l.length + 1) = k + 1 + l.length by omega]
  exact this
theorem mkD_sz {p : Int} (h : p.natAbs < 1048576 * 2 ^ BX) : Sz (mkQ p QD) 100 := by
 have h1 := BX_eq
 have h2 := EX_eq
 refine mk_sz ?_ ?_ (by omega)
 · rw [pow32, show 32 * 100 = 20 + BX + 1082 by omega, Nat.pow_add, Nat.pow_add]
   refine Nat.lt_of_lt_of_le h ?_
   rw [show (1048576 : Nat) = 2 ^ 20 from rfl]
   generalize (1082 : Nat) = m
   exact Nat.le_mul_of_pos_right _ (Nat.two_pow_pos m)
 · rw [QD_eq, pow32, show 32 * 100 = EX + 2126 by omega]; exact Nat.pow_lt_pow_right (by omega) (by omega)
theorem addD (p r : Int) : radd (mkQ p QD) (mkQ r QD) = mkQ (p + r) QD := by
 rw [radd_mk p r QD_pos QD_pos, ← Int.add_mul, mk_scale _ _ QD_pos]
theorem subD (p r : Int) : rsub (mkQ p QD) (mkQ r QD) = mkQ (p - r) QD := by
 rw [rsub_mk p r QD_pos QD_pos, ← Int.sub_mul, mk_scale _ _ QD_pos]
theorem cmpD (p r : Int) : rcmp (mkQ p QD) (mkQ r QD) = cmpQ p r := by
 rw [rcmp_mk p r QD_pos QD_pos, cmpQ_scale _ _ QD_pos]
theorem cmpQ_le (p r : Int) : decide (cmpQ p r ≤ 0) = decide (p ≤ r) := by
 unfold cmpQ
 by_cases h : p < r
 · rw [if_pos h, decide_eq_true (by omega), decide_eq_true (by omega)]
 · rw [if_neg h]
   by_cases h' : p = r
   · rw [if_pos h', decide_eq_true (by omega), decide_eq_true (by omega)]
   · rw [if_neg h', decide_eq_false (by omega), decide_eq_false (by omega)]
def ofS (a : Su.Fm) (f : Int) : Bool := !noNum f.toNat && (!okF a || decide ((fv f.toNat - fv a.2.1.toNat).natAbs ≤ radN a))
end
end Su
end
section
namespace Su
open Go Fly
set_option linter.unusedVariables false
noncomputable section
def aOf_l1 : ((List Su.Tm) × (Int × (Int × (Bool × ((List Int) × ((List Int) × (Bool × ((List Int) × ((List Int) × (Bool × ((List Int) × ((List Int) × Unit)))))))))))) → Option (((List Su.Tm) × (Int × (Int × (Bool × ((List Int) × ((List Int) × (Bool × ((List Int) × ((List Int) × (Bool × ((List Int) × ((List Int) × Unit)))))))))))) ⊕ ((List Su.Tm) × (Int × (Int × (Bool × ((List Int) × ((List Int) × (Bool × ((List Int) × ((List Int) × (Bool × ((List Int) × ((List Int) × Unit))))))))))))) := fun p4 => (bif (decide ((p4.2.2.1 < p4.2.1))) then
 ((Su.idx p4.1 p4.2.2.1)).bind fun x5 =>
 ((Su.aSize_s (Su.Tm.c x5))).bind fun x6 =>
 ((Su.RAdd_s ((p4.2.2.2.2.2.2.2.2.2.1, (p4.2.2.2.2.2.2.2.2.2.2.1, p4.2.2.2.2.2.2.2.2.2.2.2.1)), x6))).bind fun x7 =>
 some (.inl (p4.1, (p4.2.1, ((Go.IntKind.wrap .i64 (p4.2.2.1 + 1)), (p4.2.2.2.1, (p4.2.2.2.2.1, (p4.2.2.2.2.2.1, (p4.2.2.2.2.2.2.1, (p4.2.2.2.2.2.2.2.1, (p4.2.2.2.2.2.2.2.2.1, (x7.1, (x7.2.1, (x7.2.2, ())))))))))))))
 else
  some (.inr (p4.1, (p4.2.1, (p4.2.2.1, (p4.2.2.2.1, (p4.2.2.2.2.1, (p4.2.2.2.2.2.1, (p4.2.2.2.2.2.2.1, (p4.2.2.2.2.2.2.2.1, (p4.2.2.2.2.2.2.2.2.1, (p4.2.2.2.2.2.2.2.2.2.1, (p4.2.2.2.2.2.2.2.2.2.2.1, (p4.2.2.2.2.2.2.2.2.2.2.2.1, ()))))))))))))))
def aOf  (fu : Nat) (a : (Bool × (Int × ((List Su.Tm) × Int)))) (f : Int) : Option Bool :=
 ((Su.PVal_s f)).bind fun x0 =>
 (bif (!x0.2) then
 some x0.2
 else
  (bif (List.any [a] (fun z1 => (z1.1 || (!(Su.mayF z1))))) then
  some x0.2
 else
  ((Su.PVal_s a.2.1)).bind fun x2 =>
  ((Su.aSize_s a.2.2.2)).bind fun x3 =>
  (itP fu (aOf_l1) (a.2.2.1, ((((List.length a.2.2.1) : Nat) : Int), ((0 : Int), (x0.1.1, (x0.1.2.1, (x0.1.2.2, (x2.1.1, (x2.1.2.1, (x2.1.2.2, (x3.1, (x3.2.1, (x3.2.2, ()))))))))))))).bind fun x8 =>
  ((Su.RSub_s ((x8.2.2.2.1, (x8.2.2.2.2.1, x8.2.2.2.2.2.1)), (x8.2.2.2.2.2.2.1, (x8.2.2.2.2.2.2.2.1, x8.2.2.2.2.2.2.2.2.1))))).bind fun x9 =>
  ((Su.RAbs_s x9)).bind fun x10 =>
  ((Su.RCmp_s (x10, (x8.2.2.2.2.2.2.2.2.2.1, (x8.2.2.2.2.2.2.2.2.2.2.1, x8.2.2.2.2.2.2.2.2.2.2.2.1))))).bind fun x11 =>
  some (decide ((x11 ≤ 0)))))
theorem sizeF_mk {c : Int} (hg : inR .u64 c = true) (h : fI c = true) : sizeF c = mkQ (avF c : Int) QD := by
 obtain ⟨n, rfl, hn⟩ := asN64 hg
 have h' : finK (bK n) = true := by have := h; unfold fI at this; rwa [Int.toNat_natCast] at this
 have hnan : nanK (bK n) = false := nanK_not.2 (by have := finK_iff.1 h'; omega)
 have hab : absF n = bK n := by unfold absF; rw [hnan]; rfl
 have hnum : noNum (bK n) = false := by
  have := fin_num (bK n)
  rw [bK_bK, h'] at this
  cases hx : noNum (bK n) with
  | false => rfl
  | true => rw [hx] at this; cases this
 unfold sizeF avF
 rw [Int.toNat_natCast, hab, hnum, cond_false, valR_mk]
 congr 1
 unfold fv fvK
 rw [bK_bK, bS_bK, h', cond_true, cond_true, cond_false]
 cases bS n <;> simp
abbrev OfS := List Su.Tm × (Int × (Int × (Bool × (List Int × (List Int × (Bool × (List Int × (List Int × (Bool × (List Int × (List Int × Unit)))))))))))
def afMk (l : List Su.Tm) (v m r : Rt) (i : Int) : OfS := (l, (((l.length : Nat) : Int), (i, (v.1, (v.2.1, (v.2.2, (m.1, (m.2.1, (m.2.2, (r.1, (r.2.1, (r.2.2, ()))))))))))))
theorem aSize_of (c : Int) : aSize_s c = some (sizeF c) := by unfold aSize_s; rw [okS_nil, cond_true]
theorem addD_of {p r : Int} (h1 : p.natAbs < 1048576 * 2 ^ BX) (h2 : r.natAbs < 1048576 * 2 ^ BX) : RAdd_s (mkQ p QD, mkQ r QD) = some (mkQ (p + r) QD) := by
 unfold RAdd_s
 simp only []
 rw [(mkD_sz h1).ok4 (by omega), (mkD_sz h2).ok4 (by omega), addD]; rfl
theorem of_loop (l : List Su.Tm) (hl : l.length ≤ 1000000) (hg : ∀ t ∈ l, inR .u64 t.c = true) (hf : ∀ t ∈ l, fI t.c = true) (v m : Rt) : ∀ (r A : List Su.Tm) (s k : Nat), A ++ r = l → s < k * 2 ^ BX → k + r.length ≤ 1000010 →
 Runs (r.length + 1) aOf_l1 (afMk l v m (mkQ (s : Int) QD) A.length) (afMk l v m (mkQ ((sumN r s : Nat) : Int) QD) l.length)
 | [], A, s, k, h, _, _ => by
  rw [List.append_nil] at h; subst h
  refine Runs.stop ?_
  unfold afMk
  simp only [aOf_l1, ltN, decide_eq_false (Nat.lt_irrefl _), cond_false]; rfl
 | x :: r, A, s, k, h, hs, hk => by
  have hm : l.length ≤ maxLen := by rw [maxLen_eq]; omega
  have hi : A.length < l.length := by rw [← h]; simp
  have hx : x ∈ l := by rw [← h]; simp
  have hgx : idx l (A.length : Int) = some x := by
   rw [idx_nat, ← h, List.getElem?_append_right (by omega), Nat.sub_self]; rfl
  have ha := avF_lt x.c
  have hs' : s + avF x.c < (k + 1) * 2 ^ BX := by rw [Nat.add_mul]; omega
  rw [List.length_cons] at hk
  have hbig : ∀ z q : Nat, z < q * 2 ^ BX → q ≤ 1048576 → ((z : Nat) : Int).natAbs < 1048576 * 2 ^ BX := fun z q h1 h2 => by
   rw [Int.natAbs_natCast]; exact Nat.lt_of_lt_of_le h1 (Nat.mul_le_mul_right _ h2)
  have hadd := addD_of (hbig s k hs (by omega)) (hbig (avF x.c) 1 (by omega) (by omega))
  have ih := of_loop l hl hg hf v m r (A ++ [x]) (s + avF x.c) (k + 1) (by rw [← h]; simp) hs' (by omega)
  refine Runs.next ?_ ih
  unfold afMk
  simp only [aOf_l1, ltN, decide_eq_true hi, cond_true, hgx, Option.bind_some, w1 hi hm, aSize_of]
  rw [sizeF_mk (hg x hx) (hf x hx)]
  refine obB hadd ?_
  rw [show (A ++ [x]).length = A.length + 1 by simp]
  rfl
def aOf_s (p : Su.Fm × Int) : Option Bool := bif Nat.ble p.1.2.2.1.length 1000000 then some (ofS p.1 p.2) else none
theorem aOf_ok (p : Su.Fm × Int) (y : Bool) (hg : (dc cFrm (d1 (cI .u64))).good p) (h : aOf_s p = some y) : ∃ n, aOf n p.1 p.2 = some y := by
 obtain ⟨a, f⟩ := p
 obtain ⟨hm, h⟩ := bif_some h
 have := soi h; subst this
 have hl : a.2.2.1.length ≤ 1000000 := Nat.le_of_ble_eq_true hm
 refine ⟨a.2.2.1.length + 1, ?_⟩
 show aOf (a.2.2.1.length + 1) a f = some (ofS a f)
 have ha : List.any [a] (fun z0 => (z0.1 || (!(Su.mayF z0)))) = !okF a := by simp [okF]
 unfold aOf ofS
 refine obB (PVal_of f) ?_
 rcases Bool.eq_false_or_eq_true (noNum f.toNat) with hn | hn
 · rw [hn]; rfl
 · rw [hn]
   simp only [cond_false, Bool.not_true, Bool.not_false, Bool.true_and]
   rw [ha]
   rcases Bool.eq_false_or_eq_true (okF a) with ho | ho
   · obtain ⟨h0, hfin⟩ := okF_fin ho
     rw [ho]
     simp only [cond_false, Bool.not_true, Bool.false_or]
     obtain ⟨-, g1, ⟨g2, -⟩, g3⟩ := hg.1
     refine obB (PVal_of a.2.1) ?_
     rw [fin_fI hfin.mid, cond_false]
     refine obB (aSize_of _) ?_
     rw [sizeF_mk g3 hfin.err]
     have hrun := of_loop a.2.2.1 hl (fun t ht => (g2 t ht).2) hfin.tms (valR f.toNat) (valR a.2.1.toNat) a.2.2.1 [] (avF a.2.2.2) 1 rfl (by have := avF_lt a.2.2.2; omega) (by omega)
     refine obB (hrun _ (Nat.le_refl _)) ?_
     have b1 := fv_abs f.toNat
     have b2 := fv_abs a.2.1.toNat
     have b3 : (fv f.toNat - fv a.2.1.toNat).natAbs < 1048576 * 2 ^ BX := by omega
     have b4 : ((radN a : Nat) : Int).natAbs < 1048576 * 2 ^ BX := by
      have := sumN_lt a.2.2.1 (avF a.2.2.2) 1 (by have := avF_lt a.2.2.2; omega)
      rw [Int.natAbs_natCast]
      exact Nat.lt_of_lt_of_le this (Nat.mul_le_mul_right _ (by omega))
     have z1 : Sz (valR f.toNat) 100000 := (valR_sz _).mono (by omega)
     have z2 : Sz (valR a.2.1.toNat) 100000 := (valR_sz _).mono (by omega)
     have s1 : RSub_s (valR f.toNat, valR a.2.1.toNat) = some (mkQ (fv f.toNat - fv a.2.1.toNat) QD) := by
      rw [(sub_of z1 z2).1, valR_mk, valR_mk, subD]
     have s2 : RAbs_s (mkQ (fv f.toNat - fv a.2.1.toNat) QD) = some (mkQ ((fv f.toNat - fv a.2.1.toNat).natAbs : Int) QD) := by
      rw [(abs_of ((mkD_sz b3).mono (by omega))).1, rabs_mk _ QD_pos]
     have s3 : RCmp_s (mkQ ((fv f.toNat - fv a.2.1.toNat).natAbs : Int) QD, mkQ ((radN a : Nat) : Int) QD) = some (cmpQ ((fv f.toNat - fv a.2.1.toNat).natAbs : Int) (radN a : Int)) := by
      rw [cmp_of ((mkD_sz (by rw [Int.natAbs_natCast]; exact b3)).mono (by omega)) ((mkD_sz b4).mono (by omega)), cmpD]
     refine obB s1 (obB s2 (obB s3 ?_))
     rw [cmpQ_le]
     congr 1
     by_cases hle : (fv f.toNat - fv a.2.1.toNat).natAbs ≤ radN a
     · rw [decide_eq_true hle, decide_eq_true (by omega)]
     · rw [decide_eq_false hle, decide_eq_false (by omega)]
   · rw [ho]; rfl
end
end Su
end
section
namespace Su
open Go Fly
set_option linter.unusedVariables false
noncomputable section
abbrev sHas_l1_S := ((List Su.Vl) × (Int × (Int × ((List Su.Cc) × ((List Su.T) × ((List Su.T) × ((List Su.T) × ((List Su.T) × (Int × ((List Su.Ce) × (Int × (Int × Unit))))))))))))
def sHas_l1 : sHas_l1_S → Option (sHas_l1_S ⊕ (Lp sHas_l1_S Bool)) := fun p0 => (bif (decide ((p0.2.2.2.2.2.2.2.2.2.2.2.1 < p0.2.2.2.2.2.2.2.2.2.2.1))) then
 ((Su.idx p0.2.2.2.2.2.2.2.2.2.1 p0.2.2.2.2.2.2.2.2.2.2.2.1)).bind fun x1 =>
 ((Su.idx p0.2.2.2.1 p0.2.2.2.2.2.2.2.2.2.2.2.1)).bind fun x2 =>
 ((Su.idx p0.1 p0.2.2.2.2.2.2.2.2.2.2.2.1)).bind fun x3 =>
 (bif (!(decide (((Su.Vl.type x3) = (Su.Cc.type x2))))) then
 some (.inr (.ret false))
 else
  (bif (decide (((Su.Cc.type x2) = 1))) then
  (bif (Su.Vl.b x3) then
  (bif (Su.Ce.t x1) then
  some (.inl (p0.1, (p0.2.1, (p0.2.2.1, (p0.2.2.2.1, (p0.2.2.2.2.1, (p0.2.2.2.2.2.1, (p0.2.2.2.2.2.2.1, (p0.2.2.2.2.2.2.2.1, (p0.2.2.2.2.2.2.2.2.1, (p0.2.2.2.2.2.2.2.2.2.1, (p0.2.2.2.2.2.2.2.2.2.2.1, ((Go.IntKind.wrap .i64 (p0.2.2.2.2.2.2.2.2.2.2.2.1 + 1)), ())))))))))))))
 else
  (bif (!(Su.Vl.b x3)) then
  (bif (!(Su.Ce.f x1)) then
  some (.inr (.ret false))
 else
  some (.inl (p0.1, (p0.2.1, (p0.2.2.1, (p0.2.2.2.1, (p0.2.2.2.2.1, (p0.2.2.2.2.2.1, (p0.2.2.2.2.2.2.1, (p0.2.2.2.2.2.2.2.1, (p0.2.2.2.2.2.2.2.2.1, (p0.2.2.2.2.2.2.2.2.2.1, (p0.2.2.2.2.2.2.2.2.2.2.1, ((Go.IntKind.wrap .i64 (p0.2.2.2.2.2.2.2.2.2.2.2.1 + 1)), ()))))))))))))))
 else
  some (.inr (.ret false))))
 else
  (bif (!(Su.Vl.b x3)) then
  (bif (!(Su.Ce.f x1)) then
  some (.inr (.ret false))
 else
  some (.inl (p0.1, (p0.2.1, (p0.2.2.1, (p0.2.2.2.1, (p0.2.2.2.2.1, (p0.2.2.2.2.2.1, (p0.2.2.2.2.2.2.1, (p0.2.2.2.2.2.2.2.1, (p0.2.2.2.2.2.2.2.2.1, (p0.2.2.2.2.2.2.2.2.2.1, (p0.2.2.2.2.2.2.2.2.2.2.1, ((Go.IntKind.wrap .i64 (p0.2.2.2.2.2.2.2.2.2.2.2.1 + 1)), ()))))))))))))))
 else
  some (.inr (.ret false))))
 else
  (bif (decide (((Su.Cc.type x2) = 2))) then
  (bif (Su.ivHas x1.3 (Go.IntKind.wrap .i64 (Su.Vl.i x3))) then
  (bif (!(Su.ckHas (x1.4, x1.5) (Go.IntKind.wrap .i64 (Su.Vl.i x3)) p0.2.1)) then
  some (.inr (.ret false))
 else
  some (.inl (p0.1, (p0.2.1, (p0.2.2.1, (p0.2.2.2.1, (p0.2.2.2.2.1, (p0.2.2.2.2.2.1, (p0.2.2.2.2.2.2.1, (p0.2.2.2.2.2.2.2.1, (p0.2.2.2.2.2.2.2.2.1, (p0.2.2.2.2.2.2.2.2.2.1, (p0.2.2.2.2.2.2.2.2.2.2.1, ((Go.IntKind.wrap .i64 (p0.2.2.2.2.2.2.2.2.2.2.2.1 + 1)), ()))))))))))))))
 else
  some (.inr (.ret false)))
 else
  (bif (decide (((Su.Cc.type x2) = 3))) then
  (bif (Su.spHas x1.6 (Su.Vl.f x3)) then
  ((Su.aOf_s (x1.8, (Su.Vl.f x3)))).bind fun x4 =>
  (bif (!x4) then
  some (.inr (.ret false))
 else
  some (.inl (p0.1, (p0.2.1, (p0.2.2.1, (p0.2.2.2.1, (p0.2.2.2.2.1, (p0.2.2.2.2.2.1, (p0.2.2.2.2.2.2.1, (p0.2.2.2.2.2.2.2.1, (p0.2.2.2.2.2.2.2.2.1, (p0.2.2.2.2.2.2.2.2.2.1, (p0.2.2.2.2.2.2.2.2.2.2.1, ((Go.IntKind.wrap .i64 (p0.2.2.2.2.2.2.2.2.2.2.2.1 + 1)), ()))))))))))))))
 else
  some (.inr (.ret false)))
 else
  some (.inr (.ret false))))))
 else
  some (.inr (.exit 0 (p0.1, (p0.2.1, (p0.2.2.1, (p0.2.2.2.1, (p0.2.2.2.2.1, (p0.2.2.2.2.2.1, (p0.2.2.2.2.2.2.1, (p0.2.2.2.2.2.2.2.1, (p0.2.2.2.2.2.2.2.2.1, (p0.2.2.2.2.2.2.2.2.2.1, (p0.2.2.2.2.2.2.2.2.2.2.1, (p0.2.2.2.2.2.2.2.2.2.2.2.1, ())))))))))))))))
def sHas  (fu : Nat) (c : (Int × ((List Su.Cc) × ((List Su.T) × ((List Su.T) × ((List Su.T) × ((List Su.T) × Int))))))) (s : (Bool × (Bool × (Int × (Int × (List Su.Ce)))))) (row : (List Su.Vl)) (k : Int) : Option Bool :=
 (bif s.1 then
 some false
 else
  (bif (!(decide (((((List.length s.2.2.2.2) : Nat) : Int) = (((List.length c.2.1) : Nat) : Int))))) then
  some false
 else
  (bif (!(decide (((((List.length row) : Nat) : Int) = (((List.length c.2.1) : Nat) : Int))))) then
  some false
 else
  (bif (!(Su.ivHas (s.2.1, (s.2.2.1, s.2.2.2.1)) k)) then
  some false
 else
  (itP fu (sHas_l1) (row, (k, (c.1, (c.2.1, (c.2.2.1, (c.2.2.2.1, (c.2.2.2.2.1, (c.2.2.2.2.2.1, (c.2.2.2.2.2.2, (s.2.2.2.2, ((((List.length s.2.2.2.2) : Nat) : Int), ((0 : Int), ()))))))))))))).bind fun x5 =>
  (match x5 with
 | .exit i6 p7 => (bif (Nat.beq i6 0) then
  some true
 else
  none)
 | .ret o8 => some o8)))))
def hasC (t : Int) (x : Su.Ce) (v : Su.Vl) (k : Int) : Bool :=
 bif !decide (v.type = t) then false
 else bif decide (t = 1) then (v.b && x.t) || (!v.b && x.f)
 else bif decide (t = 2) then ivHas x.i v.i && ckHas (x.d, x.p) v.i k
 else bif decide (t = 3) then spHas x.s v.f && ofS x.fm v.f
 else false
def hsN (C : List Su.Cc) (X : List Su.Ce) (row : List Su.Vl) (k : Int) (i : Nat) : Bool :=
 match C[i]?, X[i]?, row[i]? with
 | some d, some x, some v => hasC d.type x v k
 | _, _, _ => true
def hasS (c : CoD) (s : StD) (row : List Su.Vl) (k : Int) : Bool :=
 bif s.1 then false else bif !decide (s.2.2.2.2.length = c.2.1.length) then false else bif !decide (row.length = c.2.1.length) then false
 else bif !ivHas (stK s) k then false else allN c.2.1.length (hsN c.2.1 s.2.2.2.2 row k)
abbrev HsS := List Su.Vl × (Int × (Int × (List Su.Cc × (List Su.T × (List Su.T × (List Su.T × (List Su.T × (Int × (List Su.Ce × (Int × (Int × Unit)))))))))))
def hsMk (c : CoD) (s : StD) (row : List Su.Vl) (k i : Int) : HsS :=
 (row, (k, (c.1, (c.2.1, (c.2.2.1, (c.2.2.2.1, (c.2.2.2.2.1, (c.2.2.2.2.2.1, (c.2.2.2.2.2.2, (s.2.2.2.2, (((s.2.2.2.2.length : Nat) : Int), (i, ()))))))))))))
def sHas_s (p : CoD × (StD × (List Su.Vl × Int))) : Option Bool := bif smS p.2.1 then some (hasS p.1 p.2.1 p.2.2.1 p.2.2.2) else none
theorem aOf_of {s : StD} (h : smS s = true) {x : Su.Ce} (hx : x ∈ s.2.2.2.2) (f : Int) : aOf_s (x.fm, f) = some (ofS x.fm f) := by
 unfold smS at h
 rw [Bool.and_eq_true] at h
 have := List.all_eq_true.1 h.2 x hx
 unfold aOf_s
 rw [show Nat.ble (x.fm, f).1.2.2.1.length 1000000 = true from this, cond_true]
theorem has_step (c : CoD) (s : StD) (row : List Su.Vl) (k : Int) (hm : smS s = true) (hg : ∀ v ∈ row, dVlP.good (frVl v)) (h1 : s.2.2.2.2.length = c.2.1.length) (h2 : row.length = c.2.1.length) (i : Nat) (hi : i < c.2.1.length) :
 sHas_l1 (hsMk c s row k i) = some (bif hsN c.2.1 s.2.2.2.2 row k i then .inl (hsMk c s row k ((i + 1 : Nat) : Int)) else .inr (.ret false)) := by
 have i1 : i < s.2.2.2.2.length := by omega
 have i2 : i < row.length := by omega
 have hmx : s.2.2.2.2.length ≤ maxLen := by have := smS_len hm; rw [maxLen_eq]; omega
 have hof := aOf_of hm (List.getElem_mem i1)
 have hv := hg _ (List.getElem_mem i2)
 unfold hsN hsMk
 rw [List.getElem?_eq_getElem hi, List.getElem?_eq_getElem i1, List.getElem?_eq_getElem i2]
 simp only [sHas_l1, ltN, decide_eq_true i1, cond_true, ixl i1, ixl hi, ixl i2, Option.bind_some, w1 i1 hmx]
 generalize c.2.1[i] = d at *
 generalize s.2.2.2.2[i] = x at *
 generalize row[i] = v at *
 have hvi : IntKind.i64.wrap v.i = v.i := by
  have := inR_i32.1 hv.2.2.1
  have h3 : -2147483648 ≤ v.i ∧ v.i < 2147483648 := this
  exact w64 (by omega) (by omega)
 rw [hvi]
 unfold hasC
 by_cases t0 : v.type = d.type
 · rw [decide_eq_true t0]
   refine (bifF rfl).trans ?_
   by_cases t1 : d.type = 1
   · rw [decide_eq_true t1]
     cases v.b <;> cases x.t <;> cases x.f <;> rfl
   · rw [decide_eq_false t1]
     refine (bifF rfl).trans ?_
     by_cases t2 : d.type = 2
     · rw [decide_eq_true t2]
       cases ivHas x.i v.i <;> cases ckHas (x.d, x.p) v.i k <;> rfl
     · rw [decide_eq_false t2]
       refine (bifF rfl).trans ?_
       by_cases t3 : d.type = 3
       · rw [decide_eq_true t3]
         cases spHas x.s v.f with
         | false => rfl
         | true =>
          refine (bifT rfl).trans ((bifT rfl).trans (obB (hof v.f) ?_))
          cases ofS x.fm v.f <;> rfl
       · rw [decide_eq_false t3]; rfl
 · rw [decide_eq_false t0]; rfl
theorem sHas_ok (p : CoD × (StD × (List Su.Vl × Int))) (y : Bool) (hg : (dc cCo (dc cSt (dc (cL rVl) (d1 (cI .i64))))).good p) (h : sHas_s p = some y) : ∃ n, sHas n p.1 p.2.1 p.2.2.1 p.2.2.2 = some y := by
 obtain ⟨c, s, row, k⟩ := p
 obtain ⟨hm, h⟩ := bif_some h
 have := soi h; subst this
 have hm : smS s = true := hm
 have hgr : ∀ v ∈ row, dVlP.good (frVl v) := hg.2.2.1.1
 refine ⟨c.2.1.length + 1, ?_⟩
 show sHas (c.2.1.length + 1) c s row k = some (hasS c s row k)
 unfold sHas
 rcases Bool.eq_false_or_eq_true s.1 with hd | hd
 · rw [show hasS c s row k = false from bifT hd]; exact bifT hd
 · refine (bifF hd).trans ?_
   rw [lnE, lnE]
   by_cases h1 : s.2.2.2.2.length = c.2.1.length
   · have e1 : (!decide (s.2.2.2.2.length = c.2.1.length)) = false := by rw [decide_eq_true h1]; rfl
     refine (bifF e1).trans ?_
     by_cases h2 : row.length = c.2.1.length
     · have e2 : (!decide (row.length = c.2.1.length)) = false := by rw [decide_eq_true h2]; rfl
       refine (bifF e2).trans ?_
       rcases Bool.eq_false_or_eq_true (ivHas (stK s) k) with hk | hk
       · have e3 : (!ivHas (stK s) k) = false := by rw [hk]; rfl
         refine (bifF e3).trans ?_
         rw [show hasS c s row k = allN c.2.1.length (hsN c.2.1 s.2.2.2.2 row k) from (bifF hd).trans ((bifF e1).trans ((bifF e2).trans (bifF e3)))]
         have hK := runs_all (F := sHas_l1) (mk := fun i => hsMk c s row k (i : Int)) (n := c.2.1.length) (ok := hsN c.2.1 s.2.2.2.2 row k) (r1 := .ret false) (r0 := .exit 0 (hsMk c s row k (c.2.1.length : Int)))
          (fun i hi hk => by rw [has_step c s row k hm hgr h1 h2 i hi, hk]; rfl) (fun i hi hk => by rw [has_step c s row k hm hgr h1 h2 i hi, hk]; rfl)
          (by unfold hsMk; simp only [sHas_l1, ltN, h1, decide_eq_false (Nat.lt_irrefl _), cond_false])
         refine obB (hK _ (Nat.le_refl _)) ?_
         cases allN c.2.1.length (hsN c.2.1 s.2.2.2.2 row k) <;> rfl
       · have e3 : (!ivHas (stK s) k) = true := by rw [hk]; rfl
         rw [show hasS c s row k = false from (bifF hd).trans ((bifF e1).trans ((bifF e2).trans (bifT e3)))]
         exact bifT e3
     · have e2 : (!decide (row.length = c.2.1.length)) = true := by rw [decide_eq_false h2]; rfl
       rw [show hasS c s row k = false from (bifF hd).trans ((bifF e1).trans (bifT e2))]
       exact bifT e2
   · have e1 : (!decide (s.2.2.2.2.length = c.2.1.length)) = true := by rw [decide_eq_false h1]; rfl
     rw [show hasS c s row k = false from (bifF hd).trans (bifT e1)]
     exact bifT e1
end
end Su
end
section
namespace Su
open Go Fly
set_option linter.unusedVariables false
noncomputable section
def qKey  (f : Int) : Option Int :=
 (bif (Su.bS (Int.toNat f)) then
 some (Go.IntKind.wrap .i64 (0 - (Go.IntKind.wrap .i64 ((Go.IntKind.wrap .i64 (((((Su.bK (Int.toNat f)) / 4503599627370496) : Nat) : Int) * 4503599627370496)) + (Go.IntKind.wrap .i64 ((((Su.bK (Int.toNat f)) % 4503599627370496) : Nat) : Int))))))
 else
  some (Go.IntKind.wrap .i64 ((Go.IntKind.wrap .i64 (((((Su.bK (Int.toNat f)) / 4503599627370496) : Nat) : Int) * 4503599627370496)) + (Go.IntKind.wrap .i64 ((((Su.bK (Int.toNat f)) % 4503599627370496) : Nat) : Int)))))
def qKey_s (f : Int) : Option Int := some (keyI f.toNat)
theorem qKey_ok (f : Int) (y : Int) (hg : (d1 (cI .u64)).good f) (h : qKey_s f = some y) : qKey f = some y := by
 obtain ⟨n, rfl, hn⟩ := asN64 hg
 have := soi h; subst this
 unfold qKey keyI
 rw [Int.toNat_natCast]
 have hk := bK_lt n
 generalize bK n = k at *
 have e : IntKind.i64.wrap (IntKind.i64.wrap (((k / 4503599627370496 : Nat) : Int) * 4503599627370496) + IntKind.i64.wrap ((k % 4503599627370496 : Nat) : Int)) = (k : Int) := by
  rw [w64 (n := ((k / 4503599627370496 : Nat) : Int) * 4503599627370496) (by omega) (by omega), w64 (n := ((k % 4503599627370496 : Nat) : Int)) (by omega) (by omega), w64 (by omega) (by omega)]
  omega
 rw [e, w64 (by omega) (by omega)]
 cases bS n
 · rfl
 · simp only [cond_true]; congr 1; omega
end
end Su
end
section
namespace Su
open Go Fly
set_option linter.unusedVariables false
noncomputable section
def qCmp  (a : Int) (b : Int) : Option (Int × Bool) :=
 (bif (decide (((((Su.clsK (Su.bK (Int.toNat a))) : Nat) : Int) = 4))) then
 some ((0 : Int), false)
 else
  (bif (decide (((((Su.clsK (Su.bK (Int.toNat b))) : Nat) : Int) = 4))) then
  some ((0 : Int), false)
 else
  (bif (decide (((Su.keyI (Int.toNat a)) < (Su.keyI (Int.toNat b))))) then
  some ((-1), true)
 else
  (bif (decide (((Su.keyI (Int.toNat b)) < (Su.keyI (Int.toNat a))))) then
  some ((1 : Int), true)
 else
  some ((0 : Int), true)))))
def qCmp_s (p : Int × Int) : Option (Int × Bool) := some (cmpC p.1.toNat p.2.toNat, cmpO p.1.toNat p.2.toNat)
theorem qCmp_ok (p : Int × Int) (y : Int × Bool) (hg : (dc (cI .u64) (d1 (cI .u64))).good p) (h : qCmp_s p = some y) : qCmp p.1 p.2 = some y := by
 have := soi h; subst this
 unfold qCmp cmpC cmpO cmpZ
 rw [cls_nan, cls_nan]
 cases nanK (bK p.1.toNat)
 · cases nanK (bK p.2.toNat)
   · simp only [cond_false, Bool.or_false, Bool.not_false]
     cases decide (keyI p.1.toNat < keyI p.2.toNat)
     · cases decide (keyI p.2.toNat < keyI p.1.toNat) <;> rfl
     · rfl
   · rfl
 · rfl
end
end Su
end
section
namespace Su
open Go Fly
set_option linter.unusedVariables false
noncomputable section
abbrev rMay14_l1_S := ((List Su.Vl) × (Int × (Int × (Int × ((List Su.Cc) × ((List Su.T) × ((List Su.T) × ((List Su.T) × ((List Su.T) × (Int × Unit))))))))))
def rMay14_l1 : rMay14_l1_S → Option (rMay14_l1_S ⊕ (Lp rMay14_l1_S Bool)) := fun p0 => (bif (decide ((p0.2.2.1 < (((List.length p0.2.2.2.2.1) : Nat) : Int)))) then
 ((Su.idx p0.2.2.2.2.1 p0.2.2.1)).bind fun x1 =>
 (bif (!(Su.Cc.input x1)) then
 some (.inl (p0.1, (p0.2.1, ((Go.IntKind.wrap .i64 (p0.2.2.1 + 1)), (p0.2.2.2.1, (p0.2.2.2.2.1, (p0.2.2.2.2.2.1, (p0.2.2.2.2.2.2.1, (p0.2.2.2.2.2.2.2.1, (p0.2.2.2.2.2.2.2.2.1, (p0.2.2.2.2.2.2.2.2.2.1, ())))))))))))
 else
  (bif (decide (((((List.length p0.1) : Nat) : Int) ≤ p0.2.1))) then
  some (.inr (.ret false))
 else
  ((Su.idx p0.1 p0.2.1)).bind fun x2 =>
  (bif (!(decide (((Su.Vl.type x2) = (Su.Cc.type x1))))) then
  some (.inr (.ret false))
 else
  ((Su.idx p0.1 p0.2.1)).bind fun x3 =>
  (bif (decide (((Su.Cc.type x1) = 1))) then
  (bif (!(decide (((Su.Vl.i x3) = 0)))) then
  some (.inr (.ret false))
 else
  (bif (!(decide (((Su.Vl.f x3) = 0)))) then
  some (.inr (.ret false))
 else
  some (.inl (p0.1, ((Go.IntKind.wrap .i64 (p0.2.1 + 1)), ((Go.IntKind.wrap .i64 (p0.2.2.1 + 1)), (p0.2.2.2.1, (p0.2.2.2.2.1, (p0.2.2.2.2.2.1, (p0.2.2.2.2.2.2.1, (p0.2.2.2.2.2.2.2.1, (p0.2.2.2.2.2.2.2.2.1, (p0.2.2.2.2.2.2.2.2.2.1, ())))))))))))))
 else
  (bif (decide (((Su.Cc.type x1) = 2))) then
  (bif (Su.Vl.b x3) then
  some (.inr (.ret false))
 else
  (bif (!(decide (((Su.Vl.f x3) = 0)))) then
  some (.inr (.ret false))
 else
  (bif (decide (((Su.Vl.i x3) < (Su.Cc.fr x1)))) then
  some (.inr (.ret false))
 else
  (bif (decide (((Su.Cc.to x1) < (Su.Vl.i x3)))) then
  some (.inr (.ret false))
 else
  some (.inl (p0.1, ((Go.IntKind.wrap .i64 (p0.2.1 + 1)), ((Go.IntKind.wrap .i64 (p0.2.2.1 + 1)), (p0.2.2.2.1, (p0.2.2.2.2.1, (p0.2.2.2.2.2.1, (p0.2.2.2.2.2.2.1, (p0.2.2.2.2.2.2.2.1, (p0.2.2.2.2.2.2.2.2.1, (p0.2.2.2.2.2.2.2.2.2.1, ())))))))))))))))
 else
  (bif (decide (((Su.Cc.type x1) = 3))) then
  (bif (Su.Vl.b x3) then
  some (.inr (.ret false))
 else
  (bif (!(decide (((Su.Vl.i x3) = 0)))) then
  some (.inr (.ret false))
 else
  (bif (!(Su.cmpO (Int.toNat (Su.Cc.lo x1)) (Int.toNat (Su.Vl.f x3)))) then
  some (.inr (.ret false))
 else
  (bif (!(Su.cmpO (Int.toNat (Su.Vl.f x3)) (Int.toNat (Su.Cc.hi x1)))) then
  some (.inr (.ret false))
 else
  (bif (decide ((0 < (Su.cmpC (Int.toNat (Su.Cc.lo x1)) (Int.toNat (Su.Vl.f x3)))))) then
  some (.inr (.ret false))
 else
  (bif (decide ((0 < (Su.cmpC (Int.toNat (Su.Vl.f x3)) (Int.toNat (Su.Cc.hi x1)))))) then
  some (.inr (.ret false))
 else
  (bif (!(Su.finK (Su.bK (Int.toNat (Su.Vl.f x3))))) then
  some (.inr (.ret false))
 else
  some (.inl (p0.1, ((Go.IntKind.wrap .i64 (p0.2.1 + 1)), ((Go.IntKind.wrap .i64 (p0.2.2.1 + 1)), (p0.2.2.2.1, (p0.2.2.2.2.1, (p0.2.2.2.2.2.1, (p0.2.2.2.2.2.2.1, (p0.2.2.2.2.2.2.2.1, (p0.2.2.2.2.2.2.2.2.1, (p0.2.2.2.2.2.2.2.2.2.1, ()))))))))))))))))))
 else
  some (.inr (.ret false))))))))
 else
  some (.inr (.exit 0 (p0.1, (p0.2.1, (p0.2.2.1, (p0.2.2.2.1, (p0.2.2.2.2.1, (p0.2.2.2.2.2.1, (p0.2.2.2.2.2.2.1, (p0.2.2.2.2.2.2.2.1, (p0.2.2.2.2.2.2.2.2.1, (p0.2.2.2.2.2.2.2.2.2.1, ())))))))))))))
def rMay14  (fu : Nat) (c : (Int × ((List Su.Cc) × ((List Su.T) × ((List Su.T) × ((List Su.T) × ((List Su.T) × Int))))))) (l : (List Su.Vl)) : Option Bool :=
 (itP fu (rMay14_l1) (l, ((0 : Int), ((0 : Int), (c.1, (c.2.1, (c.2.2.1, (c.2.2.2.1, (c.2.2.2.2.1, (c.2.2.2.2.2.1, (c.2.2.2.2.2.2, ()))))))))))).bind fun x4 =>
 (match x4 with
 | .exit i5 p6 => (bif (Nat.beq i5 0) then
  some (decide ((p6.2.1 = (((List.length p6.1) : Nat) : Int))))
 else
  none)
 | .ret o7 => some o7)
def okIn (d : Su.Cc) (v : Su.Vl) : Bool :=
 bif !decide (v.type = d.type) then false
 else bif decide (d.type = 1) then decide (v.i = 0) && decide (v.f = 0)
 else bif decide (d.type = 2) then !v.b && (decide (v.f = 0) && (!decide (v.i < d.fr) && !decide (d.to < v.i)))
 else bif decide (d.type = 3) then !v.b && (decide (v.i = 0) && (cmpO d.lo.toNat v.f.toNat && (cmpO v.f.toNat d.hi.toNat && (!decide (0 < cmpC d.lo.toNat v.f.toNat) && (!decide (0 < cmpC v.f.toNat d.hi.toNat) && finK (bK v.f.toNat))))))
 else false
def mayE : List Su.Cc → List Su.Vl → Option Nat
 | [], l => some l.length
 | d :: C, l => bif !d.input then mayE C l else match l with
  | [] => none
  | v :: l' => bif okIn d v then mayE C l' else none
def mayS (c : CoD) (l : List Su.Vl) : Bool := match mayE c.2.1 l with
 | some n => decide (n = 0)
 | none => false
abbrev MyS := List Su.Vl × (Int × (Int × (Int × (List Su.Cc × (List Su.T × (List Su.T × (List Su.T × (List Su.T × (Int × Unit)))))))))
def myMk (c : CoD) (l : List Su.Vl) (k i : Int) : MyS := (l, (k, (i, (c.1, (c.2.1, (c.2.2.1, (c.2.2.2.1, (c.2.2.2.2.1, (c.2.2.2.2.2.1, (c.2.2.2.2.2.2, ()))))))))))
def myR (c : CoD) (l : List Su.Vl) : Option Nat → Lp MyS Bool
 | some n => .exit 0 (myMk c l ((l.length - n : Nat) : Int) c.2.1.length)
 | none => .ret false
theorem mayE_le : ∀ {C : List Su.Cc} {l : List Su.Vl} {n : Nat}, mayE C l = some n → n ≤ l.length
 | [], l, n, h => by have := soi h; omega
 | d :: C, l, n, h => by
  unfold mayE at h
  cases hd : d.input with
  | false => rw [hd] at h; exact mayE_le (C := C) h
  | true =>
   rw [hd] at h
   cases l with
   | nil => cases h
   | cons v l' =>
    have h : (bif okIn d v then mayE C l' else none) = some n := h
    obtain ⟨-, h⟩ := bif_some h
    have := mayE_le (C := C) h
    rw [List.length_cons]; omega
theorem my_loop (c : CoD) (L : List Su.Vl) (hc : c.2.1.length ≤ maxLen) (hL : L.length ≤ maxLen) : ∀ (C A : List Su.Cc) (l B : List Su.Vl), A ++ C = c.2.1 → B ++ l = L → Runs (C.length + 1) rMay14_l1 (myMk c L B.length A.length) (myR c L (mayE C l))
 | [], A, l, B, hA, hB => by
  rw [List.append_nil] at hA; subst hA
  refine Runs.stop ?_
  have e : L.length - l.length = B.length := by rw [← hB]; simp
  unfold mayE myR myMk
  simp only [rMay14_l1, ltN, decide_eq_false (Nat.lt_irrefl _), cond_false, e]
 | d :: C, A, l, B, hA, hB => by
  have hi : A.length < c.2.1.length := by rw [← hA]; simp
  have hgd : idx c.2.1 (A.length : Int) = some d := by
   rw [idx_nat, ← hA, List.getElem?_append_right (by omega), Nat.sub_self]; rfl
  have ei : ((A ++ [d]).length : Int) = ((A.length + 1 : Nat) : Int) := by simp
  cases hd : d.input with
  | false =>
   have ih := my_loop c L hc hL C (A ++ [d]) l B (by rw [← hA]; simp) hB
   rw [show mayE (d :: C) l = mayE C l by rw [mayE.eq_def]; simp only [hd, Bool.not_false, cond_true]]
   refine Runs.next ?_ ih
   unfold myMk
   simp only [rMay14_l1, ltN, decide_eq_true hi, cond_true, hgd, Option.bind_some, hd, Bool.not_false, w1 hi hc, ei]
  | true =>
   cases l with
   | nil =>
    rw [show mayE (d :: C) [] = none by rw [mayE.eq_def]; simp only [hd, Bool.not_true, cond_false]]
    refine Runs.stop ?_
    rw [List.append_nil] at hB; subst hB
    unfold myMk
    simp only [rMay14_l1, ltN, decide_eq_true hi, cond_true, cond_false, hgd, Option.bind_some, hd, Bool.not_true, decide_eq_true (Int.le_refl _)]
    rfl
   | cons v l' =>
    have hk : B.length < L.length := by rw [← hB]; simp
    have hgv : idx L (B.length : Int) = some v := by
     rw [idx_nat, ← hB, List.getElem?_append_right (by omega), Nat.sub_self]; rfl
    have ek : ((B ++ [v]).length : Int) = ((B.length + 1 : Nat) : Int) := by simp
    have ih := my_loop c L hc hL C (A ++ [d]) l' (B ++ [v]) (by rw [← hA]; simp) (by rw [← hB]; simp)
    rw [ei, ek] at ih
    rw [show mayE (d :: C) (v :: l') = bif okIn d v then mayE C l' else none by rw [mayE.eq_def]; simp only [hd, Bool.not_true, cond_false]]
    have step : rMay14_l1 (myMk c L B.length A.length) = some (bif okIn d v then .inl (myMk c L ((B.length + 1 : Nat) : Int) ((A.length + 1 : Nat) : Int)) else .inr (.ret false)) := by
     unfold myMk
     simp only [rMay14_l1, ltN, decide_eq_true hi, cond_true, cond_false, hgd, Option.bind_some, hd, Bool.not_true, decide_eq_false (show ¬ (L.length : Int) ≤ (B.length : Int) by omega), hgv, w1 hi hc, w1 hk hL]
     unfold okIn
     by_cases t0 : v.type = d.type
     · rw [decide_eq_true t0]
       refine (bifF rfl).trans ?_
       by_cases t1 : d.type = 1
       · rw [decide_eq_true t1]
         cases decide (v.i = 0) <;> cases decide (v.f = 0) <;> rfl
       · rw [decide_eq_false t1]
         refine (bifF rfl).trans ?_
         by_cases t2 : d.type = 2
         · rw [decide_eq_true t2]
           cases v.b <;> cases decide (v.f = 0) <;> cases decide (v.i < d.fr) <;> cases decide (d.to < v.i) <;> rfl
         · rw [decide_eq_false t2]
           refine (bifF rfl).trans ?_
           by_cases t3 : d.type = 3
           · rw [decide_eq_true t3]
             cases v.b with
             | true => rfl
             | false =>
              cases decide (v.i = 0) with
              | false => rfl
              | true =>
               cases cmpO d.lo.toNat v.f.toNat with
               | false => rfl
               | true =>
                cases cmpO v.f.toNat d.hi.toNat with
                | false => rfl
                | true =>
                 cases decide (0 < cmpC d.lo.toNat v.f.toNat) with
                 | true => rfl
                 | false =>
                  cases decide (0 < cmpC v.f.toNat d.hi.toNat) with
                  | true => rfl
                  | false => cases finK (bK v.f.toNat) <;> rfl
           · rw [decide_eq_false t3]; rfl
     · rw [decide_eq_false t0]; rfl
    cases ho : okIn d v with
    | true =>
     rw [ho] at step
     exact Runs.next step ih
    | false =>
     rw [ho] at step
     exact Runs.stop step
def rMay14_s (p : CoD × List Su.Vl) : Option Bool := some (mayS p.1 p.2)
theorem rMay14_ok (p : CoD × List Su.Vl) (y : Bool) (hg : (dc cCo (d1 (cL rVl))).good p) (h : rMay14_s p = some y) : ∃ n, rMay14 n p.1 p.2 = some y := by
 obtain ⟨c, l⟩ := p
 have := soi h; subst this
 refine ⟨c.2.1.length + 1, ?_⟩
 show rMay14 (c.2.1.length + 1) c l = some (mayS c l)
 have hr := my_loop c l hg.1.2.1.2 hg.2.2 c.2.1 [] l [] rfl rfl
 unfold rMay14 mayS
 refine obB (hr _ (Nat.le_refl _)) ?_
 cases hm : mayE c.2.1 l with
 | none => rfl
 | some n =>
  have := mayE_le hm
  show some (decide (((l.length - n : Nat) : Int) = (l.length : Int))) = some (decide (n = 0))
  congr 1
  by_cases h0 : n = 0
  · rw [decide_eq_true h0, decide_eq_true (by omega)]
  · rw [decide_eq_false h0, decide_eq_false (by omega)]
end
end Su
end
section
namespace Su
open Go Fly
set_option linter.unusedVariables false
noncomputable section
end
end Su
end
