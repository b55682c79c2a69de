/-
  What functions of the program compute, in plain Lean, and that the evaluator finds it.
-/
import Derived.Test.YtnegfdebjikfiaaGreatSuSd
import Derived.Test.YtnegfdebjikfiaaGreatND03
set_option maxRecDepth 10000
section
namespace Su
open Go Fly
set_option linter.unusedVariables false
noncomputable section
def oSign_c1 (neg : Bool) (x : ((List Bool) × ((List Bool) × (Int × Bool)))) (mode : Int) :=
  bif neg then
  (bif (decide ((mode = 2))) then
  ((Su.oMag_s ((x.1, (x.2.1, (x.2.2.1, x.2.2.2))), (1 : Int)))).bind fun x3 =>
  (bif neg then
  ((Su.qOf_s ((Go.IntKind.wrap .i64 (0 - x3.1)), true))).bind fun x4 =>
  some (x4, x3.2)
 else
  ((Su.qOf_s (x3.1, false))).bind fun x5 =>
  some (x5, x3.2))
 else
  ((Su.oMag_s ((x.1, (x.2.1, (x.2.2.1, x.2.2.2))), mode))).bind fun x6 =>
  (bif neg then
  ((Su.qOf_s ((Go.IntKind.wrap .i64 (0 - x6.1)), true))).bind fun x7 =>
  some (x7, x6.2)
 else
  ((Su.qOf_s (x6.1, false))).bind fun x8 =>
  some (x8, x6.2)))
 else
  ((Su.oMag_s ((x.1, (x.2.1, (x.2.2.1, x.2.2.2))), mode))).bind fun x9 =>
  (bif neg then
  ((Su.qOf_s ((Go.IntKind.wrap .i64 (0 - x9.1)), true))).bind fun x10 =>
  some (x10, x9.2)
 else
  ((Su.qOf_s (x9.1, false))).bind fun x11 =>
  some (x11, x9.2))
def oSign  (neg : Bool) (x : ((List Bool) × ((List Bool) × (Int × Bool)))) (mode : Int) : Option (Int × Int) :=
  (bif neg then
  (bif (decide ((mode = 1))) then
  ((Su.oMag_s ((x.1, (x.2.1, (x.2.2.1, x.2.2.2))), (2 : Int)))).bind fun x0 =>
  (bif neg then
  ((Su.qOf_s ((Go.IntKind.wrap .i64 (0 - x0.1)), true))).bind fun x1 =>
  some (x1, x0.2)
 else
  ((Su.qOf_s (x0.1, false))).bind fun x2 =>
  some (x2, x0.2))
 else
  (oSign_c1 neg x mode))
 else
  (oSign_c1 neg x mode))
def wayN (neg : Bool) (mode : Int) : Int := bif neg then (bif decide (mode = 1) then 2 else bif decide (mode = 2) then 1 else mode) else mode
theorem finN_le2 (tw : Bool) (k : Nat) : finN tw k ≤ 9218868437227405312 := by
  unfold finN
  cases h : Nat.ble k topN with
  | true => have := Nat.le_of_ble_eq_true h; unfold topN at this; rw [cond_true]; omega
  | false => cases tw <;> simp [topN]
theorem mgK_le (mode : Int) (M Q : Nat) (rest : Bool) : mgK mode M Q rest ≤ 9218868437227405312 := by rw [mgK_eq]; exact finN_le2 _ _
theorem mg_RN (neg : Bool) (mode : Int) {M : Nat} (hM : M ≠ 0) (Q : Nat) (rest : Bool) : sgN neg + mgK (wayN neg mode) M Q rest = RN neg mode M Q rest := by
  rw [mgK_eq]
  unfold RN
  rw [beq0 hM, cond_false]
  have h1 : awN false (wayN neg mode) = awN neg mode := by
    unfold awN wayN
    cases neg
    · rfl
    · simp only [cond_true, cond_false]
      by_cases a : mode = 1
      · subst a; rfl
      · by_cases b : mode = 2
        · subst b; rfl
        · rw [decide_eq_false a, decide_eq_false b, cond_false, cond_false, decide_eq_false a]
  have h2 : twN false (wayN neg mode) = twN neg mode := by
    unfold twN wayN
    cases neg
    · rfl
    · simp only [cond_true, cond_false]
      by_cases a : mode = 1
      · subst a; rfl
      · by_cases b : mode = 2
        · subst b; rfl
        · rw [decide_eq_false a, decide_eq_false b, cond_false, cond_false, decide_eq_false b]
  have h3 : ∀ o h r : Bool, upN false (wayN neg mode) o h r = upN neg mode o h r := fun o h r => by unfold upN; rw [h1, h2]
  rw [h2, h3]
def okM (x : List Bool × (List Bool × (Int × Bool))) : Bool := decide (x.1.length ≤ 1000000000) && decide (x.2.1.length ≤ 1000000000) && decide (-5000 ≤ x.2.2.1) && decide (x.2.2.1 ≤ 5000) && Nat.beq (valB x.2.1) 1 && !Nat.beq (valB x.1) 0
noncomputable def oSign_s (p : Bool × ((List Bool × (List Bool × (Int × Bool))) × Int)) : Option (Int × Int) :=
  bif okM p.2.1 then some (((sgN p.1 + mgK (wayN p.1 p.2.2) (valB p.2.1.1) (p.2.1.2.2.1 + 6000).toNat p.2.1.2.2.2 : Nat) : Int), mgF (wayN p.1 p.2.2) (valB p.2.1.1) (p.2.1.2.2.1 + 6000).toNat p.2.1.2.2.2) else none
theorem oSign_ok (p : Bool × ((List Bool × (List Bool × (Int × Bool))) × Int)) (y : Int × Int) (hg : (dc cB (dc (cA (dc (cQ 4 1) (dc (cQ 4 1) (dc (cI .i64) (d1 cB))))) (d1 (cI .u8)))).good p) (h : oSign_s p = some y) : oSign p.1 p.2.1 p.2.2 = some y := by
  obtain ⟨neg, ⟨A, B, E, rest⟩, mode⟩ := p
  obtain ⟨hc, h⟩ := bif_some h
  have := soi h; subst this
  have hm : ∀ w : Int, oMag_s ((A, (B, (E, rest))), w) = some (((mgK w (valB A) (E + 6000).toNat rest : Nat) : Int), mgF w (valB A) (E + 6000).toNat rest) := fun w => by
    unfold oMag_s
    unfold okM at hc
    rw [hc]; rfl
  have q1 : ∀ K : Nat, K ≤ 9218868437227405312 → qOf_s ((K : Int), false) = some (K : Int) := fun K hK => by
    unfold qOf_s
    simp only []
    rw [decide_eq_true (by omega), decide_eq_true (by omega), decide_eq_false (show ¬ (K : Int) < 0 by omega), Int.natAbs_natCast]
    simp
  have q2 : ∀ K : Nat, K ≤ 9218868437227405312 → qOf_s (IntKind.i64.wrap (0 - (K : Int)), true) = some ((9223372036854775808 + K : Nat) : Int) := fun K hK => by
    rw [w64 (by omega) (by omega)]
    unfold qOf_s
    simp only []
    rw [decide_eq_true (by omega), decide_eq_true (by omega)]
    have e : (0 - (K : Int)).natAbs = K := by omega
    have e2 : (decide (0 - (K : Int) < 0) || decide (0 - (K : Int) = 0) && true) = true := by
      by_cases h0 : K = 0
      · subst h0; rfl
      · rw [decide_eq_true (by omega)]; rfl
    rw [e, e2]; rfl
  unfold oSign oSign_c1
  simp only []
  have k1 := fun w => mgK_le w (valB A) (E + 6000).toNat rest
  cases neg with
  | false =>
    simp only [cond_false, hm, Option.bind_some, q1 _ (k1 _)]
    unfold sgN wayN
    simp only [cond_false, Nat.zero_add]
  | true =>
    unfold sgN wayN
    simp only [cond_true]
    by_cases a : mode = 1
    · subst a
      simp only [decide_true, cond_true, hm, Option.bind_some, q2 _ (k1 _)]
    · rw [decide_eq_false a]
      by_cases b : mode = 2
      · subst b
        simp only [decide_true, cond_true, cond_false, hm, Option.bind_some, q2 _ (k1 _)]
      · rw [decide_eq_false b]
        simp only [cond_false, hm, Option.bind_some, q2 _ (k1 _)]
end
end Su
end
section
namespace Su
open Go Fly
set_option linter.unusedVariables false
noncomputable section
def oRound  (neg : Bool) (m : (List Bool)) (e : Int) (rest : Bool) (mode : Int) : Option (Int × Int) :=
  (bif (decide (((((Su.blen (Su.valB m)) : Nat) : Int) = 0))) then
  some ((bif ((decide ((0 < 0))) || ((decide ((0 = 0))) && neg)) then (((9223372036854775808 + (Int.natAbs 0)) : Nat) : Int) else (((Int.natAbs 0) : Nat) : Int)), (0 : Int))
 else
  (bif (true && ((true && (decide ((0 ≤ (((Su.blen (Su.valB m)) : Nat) : Int))))) && (decide (((((Su.blen (Su.valB m)) : Nat) : Int) ≤ (((List.length m) : Nat) : Int)))))) then
  (bif rest then
  ((Su.oSign_s (neg, (((List.take (Int.toNat ((((Su.blen (Su.valB m)) : Nat) : Int) - 0)) (List.drop 0 m)), ([true], ((min (max e (-5000)) 5000), (decide ((54 ≤ (((Su.blen (Su.valB m)) : Nat) : Int))))))), mode)))).bind fun x0 =>
  some (x0.1, x0.2)
 else
  ((Su.oSign_s (neg, (((List.take (Int.toNat ((((Su.blen (Su.valB m)) : Nat) : Int) - 0)) (List.drop 0 m)), ([true], ((min (max e (-5000)) 5000), false))), mode)))).bind fun x1 =>
  some (x1.1, x1.2))
 else
  none))
theorem valB_takeB (m : List Bool) : valB (m.take (blen (valB m))) = valB m := by
  have hn : blen (valB m) ≤ m.length := blen_le.2 (valB_lt m)
  have h := valB_app (m.take (blen (valB m))) (m.drop (blen (valB m)))
  rw [List.take_append_drop, List.length_take, Nat.min_eq_left hn] at h
  have hlt := blen_lt (valB m)
  by_cases h0 : valB (m.drop (blen (valB m))) = 0
  · rw [h0, Nat.mul_zero, Nat.add_zero] at h; exact h.symm
  · have h2 : 2 ^ blen (valB m) * 1 ≤ 2 ^ blen (valB m) * valB (m.drop (blen (valB m))) := Nat.mul_le_mul_left _ (by omega)
    omega
noncomputable def oRound_s (p : Bool × (List Bool × (Int × (Bool × Int)))) : Option (Int × Int) :=
  bif decide (p.2.1.length ≤ 1000000000) then
    some (((rnd p.1 p.2.2.2.2 (valB p.2.1) p.2.2.1 p.2.2.2.1 : Nat) : Int), bif Nat.beq (valB p.2.1) 0 then 0 else mgF (wayN p.1 p.2.2.2.2) (valB p.2.1) (min (max p.2.2.1 (-5000)) 5000 + 6000).toNat (p.2.2.2.1 && decide (53 < blen (valB p.2.1))))
  else none
theorem oRound_ok (p : Bool × (List Bool × (Int × (Bool × Int)))) (y : Int × Int) (hg : (dc cB (dc (cQ 4 1) (dc (cI .i64) (dc cB (d1 (cI .u8)))))).good p) (h : oRound_s p = some y) : oRound p.1 p.2.1 p.2.2.1 p.2.2.2.1 p.2.2.2.2 = some y := by
  obtain ⟨neg, m, e, rest, mode⟩ := p
  obtain ⟨hc, h⟩ := bif_some h
  have := soi h; subst this
  have hc : m.length ≤ 1000000000 := of_decide_eq_true hc
  have hn : blen (valB m) ≤ m.length := blen_le.2 (valB_lt m)
  have hv := valB_takeB m
  unfold oRound
  simp only []
  rw [rnd_eq]
  by_cases h0 : valB m = 0
  · rw [h0, RN_zero, blen_zero]
    cases neg <;> rfl
  · have hp := blen_pos h0
    rw [beq0 h0, decide_eq_false (show ¬ ((blen (valB m) : Nat) : Int) = 0 by omega), decide_eq_true (show (0 : Int) ≤ ((blen (valB m) : Nat) : Int) by omega), decide_eq_true (show ((blen (valB m) : Nat) : Int) ≤ ((m.length : Nat) : Int) by omega)]
    simp only [cond_false, cond_true, Bool.and_self, List.drop_zero]
    rw [show (((blen (valB m) : Nat) : Int) - 0).toNat = blen (valB m) by omega]
    have hs : ∀ r : Bool, oSign_s (neg, ((m.take (blen (valB m)), ([true], (min (max e (-5000)) 5000, r))), mode)) = some (((RN neg mode (valB m) (min (max e (-5000)) 5000 + 6000).toNat r : Nat) : Int), mgF (wayN neg mode) (valB m) (min (max e (-5000)) 5000 + 6000).toNat r) := fun r => by
      unfold oSign_s okM
      simp only []
      rw [hv, mg_RN neg mode h0, beq0 h0, decide_eq_true (show (m.take (blen (valB m))).length ≤ 1000000000 by rw [List.length_take]; omega), decide_eq_true (show -5000 ≤ min (max e (-5000)) 5000 by omega), decide_eq_true (show min (max e (-5000)) 5000 ≤ 5000 by omega)]
      rfl
    have hd : decide ((54 : Int) ≤ ((blen (valB m) : Nat) : Int)) = decide (53 < blen (valB m)) := by
      by_cases h53 : 53 < blen (valB m)
      · rw [decide_eq_true h53, decide_eq_true (by omega)]
      · rw [decide_eq_false h53, decide_eq_false (by omega)]
    rw [hd, hs, hs]
    cases rest <;> rfl
end
end Su
end
section
namespace Su
open Go Fly
set_option linter.unusedVariables false
noncomputable section
def uMul_c1 (a : Int) (b : Int) (mode : Int) :=
  bif (decide (((((Su.clsK (Su.bK (Int.toNat a))) : Nat) : Int) = 3))) then
  some ((((Su.infN (!(decide (((Su.bS (Int.toNat a)) = (Su.bS (Int.toNat b))))))) : Nat) : Int), (0 : Int))
 else
  (bif (decide (((((Su.clsK (Su.bK (Int.toNat b))) : Nat) : Int) = 3))) then
  some ((((Su.infN (!(decide (((Su.bS (Int.toNat a)) = (Su.bS (Int.toNat b))))))) : Nat) : Int), (0 : Int))
 else
  ((Su.bMul_s ((Su.numB (((Su.spM (Su.bK (Int.toNat a))) : Nat) : Int)), (Su.numB (((Su.spM (Su.bK (Int.toNat b))) : Nat) : Int))))).bind fun x0 =>
  ((Su.oRound_s ((!(decide (((Su.bS (Int.toNat a)) = (Su.bS (Int.toNat b)))))), (x0, ((Go.IntKind.wrap .i64 ((Su.spE (Su.bK (Int.toNat a))) + (Su.spE (Su.bK (Int.toNat b))))), (false, mode)))))).bind fun x1 =>
  some (x1.1, x1.2))
def uMul  (a : Int) (b : Int) (mode : Int) : Option (Int × Int) :=
  (bif (decide (((((Su.clsK (Su.bK (Int.toNat a))) : Nat) : Int) = 4))) then
  some ((9221120237041090560 : Int), (0 : Int))
 else
  (bif (decide (((((Su.clsK (Su.bK (Int.toNat b))) : Nat) : Int) = 4))) then
  some ((9221120237041090560 : Int), (0 : Int))
 else
  (bif (decide (((((Su.clsK (Su.bK (Int.toNat a))) : Nat) : Int) = 3))) then
  (bif (decide (((((Su.clsK (Su.bK (Int.toNat b))) : Nat) : Int) = 0))) then
  some ((9221120237041090560 : Int), (16 : Int))
 else
  (bif (decide (((((Su.clsK (Su.bK (Int.toNat a))) : Nat) : Int) = 0))) then
  (bif (decide (((((Su.clsK (Su.bK (Int.toNat b))) : Nat) : Int) = 3))) then
  some ((9221120237041090560 : Int), (16 : Int))
 else
  (uMul_c1 a b mode))
 else
  (uMul_c1 a b mode)))
 else
  (bif (decide (((((Su.clsK (Su.bK (Int.toNat a))) : Nat) : Int) = 0))) then
  (bif (decide (((((Su.clsK (Su.bK (Int.toNat b))) : Nat) : Int) = 3))) then
  some ((9221120237041090560 : Int), (16 : Int))
 else
  (uMul_c1 a b mode))
 else
  (uMul_c1 a b mode)))))
theorem mul_rnd2 {neg : Bool} {mode : Int} {j k : Nat} (hj : j ≤ 9218868437227405311) (hk : k ≤ 9218868437227405311) :
    rnd neg mode (spM j * spM k) (IntKind.i64.wrap (spE j + spE k)) false = RN neg mode (kM j * kM k) (kE j + kE k + 3852) false := by
  rw [spM_fin hj, spM_fin hk]
  obtain ⟨a1, a2, a3, a4⟩ := kM_facts hj
  obtain ⟨b1, b2, b3, b4⟩ := kM_facts hk
  rw [rnd_eq, Bool.false_and]
  by_cases h0 : j = 0
  · have : kM j = 0 := kM_zero.2 h0
    rw [this, Nat.zero_mul, RN_zero, RN_zero]
  · by_cases h1 : k = 0
    · have : kM k = 0 := kM_zero.2 h1
      rw [this, Nat.mul_zero, RN_zero, RN_zero]
    · rw [spE_fin hj h0, spE_fin hk h1, w64 (by omega) (by omega)]
      congr 1; omega
theorem mulB_len (a b : List Bool) : (mulB a b).length ≤ a.length + b.length := mulG_len a b b.length
theorem numB_len53 {k : Nat} (hk : k ≤ 9218868437227405311) : (numB ((spM k : Nat) : Int)).length ≤ 53 := by
  rw [numB_len, Int.toNat_natCast, spM_fin hk]
  exact blen_le.2 (kM_lt k)
theorem uMul_leaf {neg : Bool} {mode : Int} {j k : Nat} (hj : j ≤ 9218868437227405311) (hk : k ≤ 9218868437227405311) : ∃ fl, ((bMul_s (numB ((spM j : Nat) : Int), numB ((spM k : Nat) : Int))).bind fun x0 => (oRound_s (neg, (x0, (IntKind.i64.wrap (spE j + spE k), (false, mode))))).bind fun x1 => some (x1.1, x1.2)) = some (((RN neg mode (kM j * kM k) (kE j + kE k + 3852) false : Nat) : Int), fl) := by
  have h1 := numB_len53 hj
  have h2 := numB_len53 hk
  have h3 := mulB_len (numB ((spM j : Nat) : Int)) (numB ((spM k : Nat) : Int))
  rw [mul_some (by omega), Option.bind_some]
  unfold oRound_s
  simp only []
  rw [decide_eq_true (show (mulB (numB ((spM j : Nat) : Int)) (numB ((spM k : Nat) : Int))).length ≤ 1000000000 by omega), cond_true, Option.bind_some, mulB_val, numB_val, numB_val, Int.toNat_natCast, Int.toNat_natCast, mul_rnd2 hj hk]
  exact ⟨_, rfl⟩
theorem uMul_val {a b : Nat} (mode : Int) : ∃ fl, uMul (a : Int) (b : Int) mode = some ((mulF a b mode : Int), fl) := by
  have inf_e : ∀ k : Nat, Nat.beq k 9218868437227405312 = infK k := fun k => rfl
  unfold uMul uMul_c1 mulF
  simp only [Int.toNat_natCast, cls_nan, cls_inf, cls_zero, inf_e]
  cases h1 : nanK (bK a) with
  | true => exact ⟨_, rfl⟩
  | false =>
  cases h2 : nanK (bK b) with
  | true => exact ⟨_, rfl⟩
  | false =>
  have h1' := nanK_not.1 h1
  have h2' := nanK_not.1 h2
  generalize hneg : (!decide (bS a = bS b)) = neg
  cases h3 : infK (bK a) with
  | true =>
    have h5 : Nat.beq (bK a) 0 = false := beq0 (fun e => by rw [e] at h3; exact absurd h3 (by decide))
    rw [h5]
    cases h6 : Nat.beq (bK b) 0 <;> cases h7 : infK (bK b) <;> (simp only [cond_true, cond_false, Bool.true_and, Bool.true_or, Bool.or_true, Bool.or_self, Bool.or_false]; exact ⟨_, rfl⟩)
  | false =>
  cases h4 : infK (bK b) with
  | true =>
    have h6 : Nat.beq (bK b) 0 = false := beq0 (fun e => by rw [e] at h4; exact absurd h4 (by decide))
    rw [h6]
    cases h5 : Nat.beq (bK a) 0 <;> (simp only [cond_true, cond_false, Bool.true_and, Bool.true_or, Bool.or_true, Bool.or_self, Bool.or_false, Bool.false_or]; exact ⟨_, rfl⟩)
  | false =>
  have i3 : bK a ≠ 9218868437227405312 := fun e => by unfold infK at h3; rw [e] at h3; simp at h3
  have i4 : bK b ≠ 9218868437227405312 := fun e => by unfold infK at h4; rw [e] at h4; simp at h4
  have fa : bK a ≤ 9218868437227405311 := by omega
  have fb : bK b ≤ 9218868437227405311 := by omega
  cases h5 : Nat.beq (bK a) 0 <;> cases h6 : Nat.beq (bK b) 0 <;> (simp only [cond_false, cond_true, Bool.or_self, Bool.false_and]; exact uMul_leaf fa fb)
end
end Su
end
