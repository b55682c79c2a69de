/-
  What functions of the program compute, in plain Lean, and that the evaluator finds it.
-/
import Derived.Test.YtnegfdebjikfiaaGreatSuSd
import Derived.Test.YtnegfdebjikfiaaGreatND18
import Derived.Test.YtnegfdebjikfiaaGreatNC23
set_option maxRecDepth 10000
namespace Su
open Go Fly
set_option linter.unusedVariables false
noncomputable section
def lMak  (f : Int) (s : (Bool × (Int × Int))) (id : Int) (a : (Bool × (Int × ((List Su.Tm) × Int)))) (e : Int) : Option Bool :=
  (bif (decide ((40 < (((List.length a.2.2.1) : Nat) : Int)))) then
  some true
 else
  ((Su.lOf_s (a.1, (a.2.1, (a.2.2.1, a.2.2.2))))).bind fun x0 =>
  ((Su.lIs_s (((Su.doneF (false, (f, ([], (0 : Int))))).1, ((Su.doneF (false, (f, ([], (0 : Int))))).2.1, ((Su.doneF (false, (f, ([], (0 : Int))))).2.2.1, (Su.doneF (false, (f, ([], (0 : Int))))).2.2.2))), ((Su.ofF (Su.constF f)).1, ((Su.constF f).2.1, ((List.map (Su.Tm.id) (Su.constF f).2.2.1), ((List.map (Su.Tm.c) (Su.constF f).2.2.1), (Su.constF f).2.2.2))))))).bind fun x1 =>
  ((Su.lIs_s (((Su.fromF (s.1, (s.2.1, s.2.2)) id).1, ((Su.fromF (s.1, (s.2.1, s.2.2)) id).2.1, ((Su.fromF (s.1, (s.2.1, s.2.2)) id).2.2.1, (Su.fromF (s.1, (s.2.1, s.2.2)) id).2.2.2))), ((Su.ofF (Su.fromF (s.1, (s.2.1, s.2.2)) id)).1, ((Su.fromF (s.1, (s.2.1, s.2.2)) id).2.1, ((List.map (Su.Tm.id) (Su.fromF (s.1, (s.2.1, s.2.2)) id).2.2.1), ((List.map (Su.Tm.c) (Su.fromF (s.1, (s.2.1, s.2.2)) id).2.2.1), (Su.fromF (s.1, (s.2.1, s.2.2)) id).2.2.2))))))).bind fun x2 =>
  ((Su.aMore_s ((a.1, (a.2.1, (a.2.2.1, a.2.2.2))), e))).bind fun x3 =>
  ((Su.rMore_s ((x0.1, (x0.2.1, (x0.2.2.1, (x0.2.2.2.1, x0.2.2.2.2)))), e))).bind fun x4 =>
  ((Su.lIs_s ((x3.1, (x3.2.1, (x3.2.2.1, x3.2.2.2))), (x4.1, (x4.2.1, (x4.2.2.1, (x4.2.2.2.1, x4.2.2.2.2))))))).bind fun x5 =>
  ((Su.aNeg_s (a.1, (a.2.1, (a.2.2.1, a.2.2.2))))).bind fun x6 =>
  ((Su.rNeg_s (x0.1, (x0.2.1, (x0.2.2.1, (x0.2.2.2.1, x0.2.2.2.2)))))).bind fun x7 =>
  ((Su.lIs_s ((x6.1, (x6.2.1, (x6.2.2.1, x6.2.2.2))), (x7.1, (x7.2.1, (x7.2.2.1, (x7.2.2.2.1, x7.2.2.2.2))))))).bind fun x8 =>
  (bif x1 then
  (bif x2 then
  (bif x5 then
  (bif x8 then
  ((Su.aSpan_s (a.1, (a.2.1, (a.2.2.1, a.2.2.2))))).bind fun x9 =>
  ((Su.rSpan_s (x0.1, (x0.2.1, (x0.2.2.1, (x0.2.2.2.1, x0.2.2.2.2)))))).bind fun x10 =>
  (bif ((x9.1 == x10.1) && ((decide ((x9.2.1 = x10.2.1))) && ((decide ((x9.2.2 = x10.2.2))) && true))) then
  ((Su.aRad_s (a.1, (a.2.1, (a.2.2.1, a.2.2.2))))).bind fun x11 =>
  ((Su.rRad_s (x0.1, (x0.2.1, (x0.2.2.1, (x0.2.2.2.1, x0.2.2.2.2)))))).bind fun x12 =>
  (bif (decide ((x11 = x12))) then
  ((Su.rMay_s (x0.1, (x0.2.1, (x0.2.2.1, (x0.2.2.2.1, x0.2.2.2.2)))))).bind fun x13 =>
  some (decide (((Su.mayF (a.1, (a.2.1, (a.2.2.1, a.2.2.2)))) = x13)))
 else
  some false)
 else
  some false)
 else
  some false)
 else
  some false)
 else
  some false)
 else
  some false))
theorem more_len (a : Fm) (e : Int) : (moreF a e).2.2.1.length ≤ a.2.2.1.length := by
  unfold moreF
  cases okF a && fI e with
  | true => exact done_len _
  | false => exact Nat.zero_le _
theorem from_len (s : Spn) (id : Int) : (fromF s id).2.2.1.length ≤ 1 := by
  unfold fromF fromN
  cases (normS s).1 with
  | true => exact Nat.zero_le _
  | false =>
    cases fI (normS s).2.1 with
    | false => exact Nat.zero_le _
    | true =>
      cases fI (normS s).2.2 with
      | false => exact Nat.zero_le _
      | true =>
        cases decide (id < 0) with
        | true => exact Nat.le_trans (done_len _) (Nat.zero_le _)
        | false => exact done_len _
theorem const_len (f : Int) : (constF f).2.2.1.length ≤ 0 := done_len _
def lMak_s (_ : Int × (Spn × (Int × (Fm × Int)))) : Option Bool := some true
theorem lMak_ok (p : Int × (Spn × (Int × (Fm × Int)))) (y : Bool) (hg : (dc (cI .u64) (dc cSpn (dc (cI .i64) (dc cFrm (d1 (cI .u64)))))).good p) (h : lMak_s p = some y) : lMak p.1 p.2.1 p.2.2.1 p.2.2.2.1 p.2.2.2.2 = some y := by
  obtain ⟨f, s, id, a, e⟩ := p
  have := soi h; subst this
  clear hg h
  show lMak f s id a e = some true
  unfold lMak
  by_cases ha : 40 < (a.2.2.1.length : Int)
  · rw [decide_eq_true ha]; rfl
  rw [decide_eq_false ha, cond_false]
  have ll : a.2.2.1.length ≤ 500000000000 := by omega
  have lk : lenOK a.2.2.1 = true := Nat.ble_eq_true_of_le (by omega)
  have e1 : (s.1, (s.2.1, s.2.2)) = s := rfl
  rw [e1]
  have k0 := const_len f
  have k1 := from_len s id
  have k2 := more_len a e
  have k3 := neg_len a
  have s1 : aMore_s (a, e) = some (moreF a e) := by unfold aMore_s; rw [show lenOK (a, e).1.2.2.1 = true from lk, cond_true]
  have s2 : rMore_s (ofF a, e) = some (ofF (moreF a e)) := by unfold rMore_s; rw [show okR (ofF a, e).1 = true from okR_of ll, cond_true]; show some (ofF (moreF (toF (ofF a)) e)) = _; rw [to_of]
  have s3 : aNeg_s a = some (negFm a) := by unfold aNeg_s; rw [lk, cond_true]
  have s4 : rNeg_s (ofF a) = some (ofF (negFm a)) := by unfold rNeg_s; rw [okR_of ll, cond_true, to_of]
  have s5 : aSpan_s a = some (spanF a) := by unfold aSpan_s; rw [lk, cond_true]
  have s6 : rSpan_s (ofF a) = some (spanF a) := by unfold rSpan_s; rw [okR_of ll, cond_true, to_of]
  have s7 : aRad_s a = some (radF a) := by unfold aRad_s; rw [lk, cond_true]
  have s8 : rRad_s (ofF a) = some (radF a) := by unfold rRad_s; rw [okR_of ll, cond_true, to_of]
  have s9 : rMay_s (ofF a) = some (mayF a) := rMay_of a
  refine obs (lOf_of (a := a) ll) (obs (lIs_of (a := constF f) (by omega)) (obs (lIs_of (a := fromF s id) (by omega)) (obs s1 (obs s2 (obs (lIs_of (a := moreF a e) (by omega)) (obs s3 (obs s4 (obs (lIs_of (a := negFm a) (by omega)) ?_))))))))
  refine obs s5 (obs s6 ?_)
  rw [decide_eq_true (rfl : (spanF a).2.1 = (spanF a).2.1), decide_eq_true (rfl : (spanF a).2.2 = (spanF a).2.2), show ((spanF a).1 == (spanF a).1) = true from beq_self_eq_true _]
  refine obs s7 (obs s8 ?_)
  rw [decide_eq_true (rfl : radF a = radF a), cond_true]
  refine obs s9 ?_
  exact congrArg some (decide_eq_true rfl)
end
end Su
