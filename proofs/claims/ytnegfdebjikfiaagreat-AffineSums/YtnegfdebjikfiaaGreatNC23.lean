/-
  What functions of the program compute, in plain Lean, and that the evaluator finds it.
-/
import Derived.Test.YtnegfdebjikfiaaGreatSuSd
import Derived.Test.YtnegfdebjikfiaaGreatNC19
import Derived.Test.YtnegfdebjikfiaaGreatRcs
import Derived.Test.YtnegfdebjikfiaaGreatRsm
set_option maxRecDepth 10000
section
namespace Su
open Go Fly
set_option linter.unusedVariables false
noncomputable section
theorem done_len (x : Fm) : (doneF x).2.2.1.length ≤ x.2.2.1.length := by
  rw [doneF_eq]
  cases ((fI (nzI x.2.1) && fI (nzI x.2.2.2)) && !((delZ x.2.2.1).any fun t => !fI t.c)) with
  | true => exact List.length_filter_le _ _
  | false => exact Nat.zero_le _
theorem mergeN_len (f : Int → Int → Int → Int × Int) : ∀ (n : Nat) (l m : List Tm) (e : Int), (mergeN f n l m e).1.length ≤ n
  | 0, _, _, _ => Nat.le_refl _
  | n + 1, [], [], _ => Nat.zero_le _
  | n + 1, a :: l, [], e => Nat.succ_le_succ (mergeN_len f n l [] _)
  | n + 1, [], b :: m, e => Nat.succ_le_succ (mergeN_len f n [] m _)
  | n + 1, a :: l, b :: m, e => by
    simp only [mergeN]
    cases decide (a.id < b.id) with
    | true => exact Nat.succ_le_succ (mergeN_len f n l (b :: m) _)
    | false =>
      cases decide (b.id < a.id) with
      | true => exact Nat.succ_le_succ (mergeN_len f n (a :: l) m _)
      | false => exact Nat.succ_le_succ (mergeN_len f n l m _)
theorem add_len (a b : Fm) : (addFm a b).2.2.1.length ≤ a.2.2.1.length + b.2.2.1.length := by
  rw [addFm_eq]
  unfold addO'
  cases okF a && okF b with
  | true => exact Nat.le_trans (done_len _) (mergeN_len _ _ _ _ _)
  | false => exact Nat.zero_le _
end
end Su
end
section
namespace Su
open Go Fly
set_option linter.unusedVariables false
noncomputable section
def lSum  (a : (Bool × (Int × ((List Su.Tm) × Int)))) (b : (Bool × (Int × ((List Su.Tm) × Int)))) : Option Bool :=
  (bif (decide ((40 < (((List.length a.2.2.1) : Nat) : Int)))) then
  some true
 else
  (bif (decide ((40 < (((List.length b.2.2.1) : Nat) : Int)))) then
  some true
 else
  ((Su.aSum_s ((a.1, (a.2.1, (a.2.2.1, a.2.2.2))), (b.1, (b.2.1, (b.2.2.1, b.2.2.2)))))).bind fun x0 =>
  ((Su.lOf_s (a.1, (a.2.1, (a.2.2.1, a.2.2.2))))).bind fun x1 =>
  ((Su.lOf_s (b.1, (b.2.1, (b.2.2.1, b.2.2.2))))).bind fun x2 =>
  ((Su.rAdd_s ((x1.1, (x1.2.1, (x1.2.2.1, (x1.2.2.2.1, x1.2.2.2.2)))), (x2.1, (x2.2.1, (x2.2.2.1, (x2.2.2.2.1, x2.2.2.2.2))))))).bind fun x3 =>
  ((Su.lIs_s ((x0.1, (x0.2.1, (x0.2.2.1, x0.2.2.2))), (x3.1, (x3.2.1, (x3.2.2.1, (x3.2.2.2.1, x3.2.2.2.2))))))).bind fun x4 =>
  ((Su.aSub_s ((a.1, (a.2.1, (a.2.2.1, a.2.2.2))), (b.1, (b.2.1, (b.2.2.1, b.2.2.2)))))).bind fun x5 =>
  ((Su.lOf_s (a.1, (a.2.1, (a.2.2.1, a.2.2.2))))).bind fun x6 =>
  ((Su.lOf_s (b.1, (b.2.1, (b.2.2.1, b.2.2.2))))).bind fun x7 =>
  ((Su.rNeg_s (x7.1, (x7.2.1, (x7.2.2.1, (x7.2.2.2.1, x7.2.2.2.2)))))).bind fun x8 =>
  ((Su.rAdd_s ((x6.1, (x6.2.1, (x6.2.2.1, (x6.2.2.2.1, x6.2.2.2.2)))), (x8.1, (x8.2.1, (x8.2.2.1, (x8.2.2.2.1, x8.2.2.2.2))))))).bind fun x9 =>
  ((Su.lIs_s ((x5.1, (x5.2.1, (x5.2.2.1, x5.2.2.2))), (x9.1, (x9.2.1, (x9.2.2.1, (x9.2.2.2.1, x9.2.2.2.2))))))).bind fun x10 =>
  (bif x4 then
  some x10
 else
  some false)))
theorem neg_len (a : Fm) : (negFm a).2.2.1.length ≤ a.2.2.1.length := by
  unfold negFm
  cases okF a with
  | true => exact Nat.le_trans (done_len _) (by simp)
  | false => exact Nat.zero_le _
theorem lOf_of {a : Fm} (h : a.2.2.1.length ≤ 500000000000) : lOf_s a = some (ofF a) := by
  unfold lOf_s
  rw [Nat.ble_eq_true_of_le h, cond_true]
theorem rAdd_of {a b : Fm} (h : a.2.2.1.length + b.2.2.1.length ≤ 500000000000) : rAdd_s (ofF a, ofF b) = some (ofF (addFm a b)) := by
  unfold rAdd_s
  simp only []
  have hl1 : (ofF a).2.2.1.length = a.2.2.1.length := List.length_map ..
  have hl2 : (ofF b).2.2.1.length = b.2.2.1.length := List.length_map ..
  rw [okR_of (by omega), okR_of (by omega), hl1, hl2, Nat.ble_eq_true_of_le h, to_of, to_of]
  rfl
theorem rNeg_of {a : Fm} (h : a.2.2.1.length ≤ 500000000000) : rNeg_s (ofF a) = some (ofF (negFm a)) := by
  unfold rNeg_s
  rw [okR_of h, to_of, cond_true]
def lSum_s (_ : Fm × Fm) : Option Bool := some true
theorem lSum_ok (p : Fm × Fm) (y : Bool) (hg : (dc cFrm (d1 cFrm)).good p) (h : lSum_s p = some y) : lSum p.1 p.2 = some y := by
  obtain ⟨a, b⟩ := p
  have := soi h; subst this
  unfold lSum
  simp only []
  by_cases ha : 40 < (a.2.2.1.length : Int)
  · rw [decide_eq_true ha]; rfl
  by_cases hb : 40 < (b.2.2.1.length : Int)
  · rw [decide_eq_true hb]; cases decide (40 < (a.2.2.1.length : Int)) <;> rfl
  rw [decide_eq_false ha, decide_eq_false hb, cond_false, cond_false]
  have hn := neg_len b
  have s1 : aSum_s (a, b) = some (addFm a b) := by
    unfold aSum_s
    simp only []
    rw [Nat.ble_eq_true_of_le (by omega), cond_true]
  have s2 : aSub_s (a, b) = some (addFm a (negFm b)) := by
    unfold aSub_s lenOK
    simp only []
    rw [Nat.ble_eq_true_of_le (by omega), Nat.ble_eq_true_of_le (by omega)]; rfl
  have l1 := add_len a b
  have l2 := add_len a (negFm b)
  refine obs s1 (obs (lOf_of (a := a) (by omega)) (obs (lOf_of (a := b) (by omega)) (obs (rAdd_of (a := a) (b := b) (by omega)) (obs (lIs_of (a := addFm a b) (by omega)) ?_))))
  refine obs s2 (obs (lOf_of (a := a) (by omega)) (obs (lOf_of (a := b) (by omega)) (obs (rNeg_of (a := b) (by omega)) (obs (rAdd_of (a := a) (b := negFm b) (by omega)) (obs (lIs_of (a := addFm a (negFm b)) (by omega)) ?_)))))
  rfl
end
end Su
end
