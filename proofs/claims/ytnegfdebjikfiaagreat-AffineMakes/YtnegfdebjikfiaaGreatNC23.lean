/-
  What functions of the program compute, in plain Lean, and that the evaluator finds it.
-/
import Derived.Test.YtnegfdebjikfiaaGreatSuSd
import Derived.Test.YtnegfdebjikfiaaGreatNC19
import Derived.Test.YtnegfdebjikfiaaGreatRcs
import Derived.Test.YtnegfdebjikfiaaGreatRsm
import Derived.Test.YtnegfdebjikfiaaGreatNC14
set_option maxRecDepth 10000
section
namespace Su
open Go Fly
set_option linter.unusedVariables false
noncomputable section
theorem done_len (x : Fm) : (doneF x).2.2.1.length ≤ x.2.2.1.length := by
  rw [doneF_eq]
  cases ((fI (nzI x.2.1) && fI (nzI x.2.2.2)) && !((delZ x.2.2.1).any fun t => !fI t.c)) with
  | true => exact List.length_filter_le _ _
  | false => exact Nat.zero_le _
theorem mergeN_len (f : Int → Int → Int → Int × Int) : ∀ (n : Nat) (l m : List Tm) (e : Int), (mergeN f n l m e).1.length ≤ n
  | 0, _, _, _ => Nat.le_refl _
  | n + 1, [], [], _ => Nat.zero_le _
  | n + 1, a :: l, [], e => Nat.succ_le_succ (mergeN_len f n l [] _)
  | n + 1, [], b :: m, e => Nat.succ_le_succ (mergeN_len f n [] m _)
  | n + 1, a :: l, b :: m, e => by
    simp only [mergeN]
    cases decide (a.id < b.id) with
    | true => exact Nat.succ_le_succ (mergeN_len f n l (b :: m) _)
    | false =>
      cases decide (b.id < a.id) with
      | true => exact Nat.succ_le_succ (mergeN_len f n (a :: l) m _)
      | false => exact Nat.succ_le_succ (mergeN_len f n l m _)
theorem add_len (a b : Fm) : (addFm a b).2.2.1.length ≤ a.2.2.1.length + b.2.2.1.length := by
  rw [addFm_eq]
  unfold addO'
  cases okF a && okF b with
  | true => exact Nat.le_trans (done_len _) (mergeN_len _ _ _ _ _)
  | false => exact Nat.zero_le _
end
end Su
end
section
namespace Su
open Go Fly
set_option linter.unusedVariables false
noncomputable section
def lSum  (a : (Bool × (Int × ((List Su.Tm) × Int)))) (b : (Bool × (Int × ((List Su.Tm) × Int)))) : Option Bool :=
  (bif (decide ((40 < (((List.length a.2.2.1) : Nat) : Int)))) then
  some true
 else
  (bif (decide ((40 < (((List.length b.2.2.1) : Nat) : Int)))) then
  some true
 else
  ((Su.aSum_s ((a.1, (a.2.1, (a.2.2.1, a.2.2.2))), (b.1, (b.2.1, (b.2.2.1, b.2.2.2)))))).bind fun x0 =>
  ((Su.lOf_s (a.1, (a.2.1, (a.2.2.1, a.2.2.2))))).bind fun x1 =>
  ((Su.lOf_s (b.1, (b.2.1, (b.2.2.1, b.2.2.2))))).bind fun x2 =>
  ((Su.rAdd_s ((x1.1, (x1.2.1, (x1.2.2.1, (x1.2.2.2.1, x1.2.2.2.2)))), (x2.1, (x2.2.1, (x2.2.2.1, (x2.2.2.2.1, x2.2.2.2.2))))))).bind fun x3 =>
  ((Su.lIs_s ((x0.1, (x0.2.1, (x0.2.2.1, x0.2.2.2))), (x3.1, (x3.2.1, (x3.2.2.1, (x3.2.2.2.1, x3.2.2.2.2))))))).bind fun x4 =>
  ((Su.aSub_s ((a.1, (a.2.1, (a.2.2.1, a.2.2.2))), (b.1, (b.2.1, (b.2.2.1, b.2.2.2)))))).bind fun x5 =>
  ((Su.lOf_s (a.1, (a.2.1, (a.2.2.1, a.2.2.2))))).bind fun x6 =>
  ((Su.lOf_s (b.1, (b.2.1, (b.2.2.1, b.2.2.2))))).bind fun x7 =>
  ((Su.rNeg_s (x7.1, (x7.2.1, (x7.2.2.1, (x7.2.2.2.1, x7.2.2.2.2)))))).bind fun x8 =>
  ((Su.rAdd_s ((x6.1, (x6.2.1, (x6.2.2.1, (x6.2.2.2.1, x6.2.2.2.2)))), (x8.1, (x8.2.1, (x8.2.2.1, (x8.2.2.2.1, x8.2.2.2.2))))))).bind fun x9 =>
  ((Su.lIs_s ((x5.1, (x5.2.1, (x5.2.2.1, x5.2.2.2))), (x9.1, (x9.2.1, (x9.2.2.1, (x9.2.2.2.1, x9.2.2.2.2))))))).bind fun x10 =>
  (bif x4 then
  some x10
 else
  some false)))
theorem neg_len (a : Fm) : (negFm a).2.2.1.length ≤ a.2.2.1.length := by
  unfold negFm
  cases okF a with
  | true => exact Nat.le_trans (done_len _) (by simp)
  | false => exact Nat.zero_le _
theorem lOf_of {a : Fm} (h : a.2.2.1.length ≤ 500000000000) : lOf_s a = some (ofF a) := by
  unfold lOf_s
  rw [Nat.ble_eq_true_of_le h, cond_true]
theorem rAdd_of {a b : Fm} (h : a.2.2.1.length + b.2.2.1.length ≤ 500000000000) : rAdd_s (ofF a, ofF b) = some (ofF (addFm a b)) := by
  unfold rAdd_s
  simp only []
  have hl1 : (ofF a).2.2.1.length = a.2.2.1.length := List.length_map ..
  have hl2 : (ofF b).2.2.1.length = b.2.2.1.length := List.length_map ..
  rw [okR_of (by omega), okR_of (by omega), hl1, hl2, Nat.ble_eq_true_of_le h, to_of, to_of]
  rfl
theorem rNeg_of {a : Fm} (h : a.2.2.1.length ≤ 500000000000) : rNeg_s (ofF a) = some (ofF (negFm a)) := by
  unfold rNeg_s
  rw [okR_of h, to_of, cond_true]
def lSum_s (_ : Fm × Fm) : Option Bool := some true
theorem lSum_ok (p : Fm × Fm) (y : Bool) (hg : (dc cFrm (d1 cFrm)).good p) (h : lSum_s p = some y) : lSum p.1 p.2 = some y := by
  obtain ⟨a, b⟩ := p
  have := soi h; subst this
  unfold lSum
  simp only []
  by_cases ha : 40 < (a.2.2.1.length : Int)
  · rw [decide_eq_true ha]; rfl
  by_cases hb : 40 < (b.2.2.1.length : Int)
  · rw [decide_eq_true hb]; cases decide (40 < (a.2.2.1.length : Int)) <;> rfl
  rw [decide_eq_false ha, decide_eq_false hb, cond_false, cond_false]
  have hn := neg_len b
  have s1 : aSum_s (a, b) = some (addFm a b) := by
    unfold aSum_s
    simp only []
    rw [Nat.ble_eq_true_of_le (by omega), cond_true]
  have s2 : aSub_s (a, b) = some (addFm a (negFm b)) := by
    unfold aSub_s lenOK
    simp only []
    rw [Nat.ble_eq_true_of_le (by omega), Nat.ble_eq_true_of_le (by omega)]; rfl
  have l1 := add_len a b
  have l2 := add_len a (negFm b)
  refine obs s1 (obs (lOf_of (a := a) (by omega)) (obs (lOf_of (a := b) (by omega)) (obs (rAdd_of (a := a) (b := b) (by omega)) (obs (lIs_of (a := addFm a b) (by omega)) ?_))))
  refine obs s2 (obs (lOf_of (a := a) (by omega)) (obs (lOf_of (a := b) (by omega)) (obs (rNeg_of (a := b) (by omega)) (obs (rAdd_of (a := a) (b := negFm b) (by omega)) (obs (lIs_of (a := addFm a (negFm b)) (by omega)) ?_)))))
  rfl
end
end Su
end
section
namespace Su
open Go Fly
set_option linter.unusedVariables false
noncomputable section
def aRad_l1 : (Int × ((List Su.Tm) × (Int × (Int × (Bool × (Int × ((List Su.Tm) × (Int × Unit)))))))) → Option ((Int × ((List Su.Tm) × (Int × (Int × (Bool × (Int × ((List Su.Tm) × (Int × Unit)))))))) ⊕ (Int × ((List Su.Tm) × (Int × (Int × (Bool × (Int × ((List Su.Tm) × (Int × Unit))))))))) := fun p1 => (bif (decide ((p1.2.2.2.1 < p1.2.2.1))) then
  ((Su.idx p1.2.1 p1.2.2.2.1)).bind fun x2 =>
  some (.inl ((((Su.upS 0 [p1.1, (((Su.absF (Int.toNat (Su.Tm.c x2))) : Nat) : Int)]) : Nat) : Int), (p1.2.1, (p1.2.2.1, ((Go.IntKind.wrap .i64 (p1.2.2.2.1 + 1)), (p1.2.2.2.2.1, (p1.2.2.2.2.2.1, (p1.2.2.2.2.2.2.1, (p1.2.2.2.2.2.2.2.1, ())))))))))
 else
  some (.inr (p1.1, (p1.2.1, (p1.2.2.1, (p1.2.2.2.1, (p1.2.2.2.2.1, (p1.2.2.2.2.2.1, (p1.2.2.2.2.2.2.1, (p1.2.2.2.2.2.2.2.1, ()))))))))))
def aRad  (fu : Nat) (a : (Bool × (Int × ((List Su.Tm) × Int)))) : Option Int :=
  (bif (List.any [(a.1, (a.2.1, (a.2.2.1, a.2.2.2)))] (fun z0 => (z0.1 || (!(Su.mayF z0))))) then
  some ((9218868437227405312 : Nat) : Int)
 else
  (itP fu (aRad_l1) ((0 : Int), (a.2.2.1, ((((List.length a.2.2.1) : Nat) : Int), ((0 : Int), (a.1, (a.2.1, (a.2.2.1, (a.2.2.2, ()))))))))).bind fun x3 =>
  some (((Su.upS 0 [x3.1, x3.2.2.2.2.2.2.2.1]) : Nat) : Int))
def absA (c : Int) : Int := ((absF c.toNat : Nat) : Int)
def sumA : List Tm → Int → Int
  | [], s => s
  | t :: l, s => sumA l (upI [s, absA t.c])
def radL : {f : Fm → Int // ∀ a, f a = bif okF a then upI [sumA a.2.2.1 0, a.2.2.2] else 9218868437227405312} := Classical.choice ⟨⟨_, fun _ => rfl⟩⟩
def radF (a : Fm) : Int := radL.1 a
theorem radF_eq (a : Fm) : radF a = bif okF a then upI [sumA a.2.2.1 0, a.2.2.2] else 9218868437227405312 := radL.2 a
def aRad_s (a : Fm) : Option Int := bif lenOK a.2.2.1 then some (radF a) else none
theorem rad_loop (l : List Tm) (hl : l.length ≤ 549755813888) (q : Bool × (Int × (List Tm × (Int × Unit)))) : ∀ (rest A : List Tm) (s : Int), A ++ rest = l →
    ∃ n, itP n aRad_l1 (s, (l, ((l.length : Int), ((A.length : Int), q)))) = some (sumA rest s, (l, ((l.length : Int), ((l.length : Int), q))))
  | [], A, s, hA => by
    rw [List.append_nil] at hA; subst hA
    refine ⟨1, ?_⟩
    rw [itP_s]
    simp only [aRad_l1]
    rw [decide_eq_false (by omega), cond_false]; rfl
  | t :: rest, A, s, hA => by
    have hNl : A.length + (rest.length + 1) = l.length := by rw [← hA]; simp
    have hg : idx l (A.length : Int) = some t := by
      rw [idx_nat, ← hA, List.getElem?_append_right (by omega), Nat.sub_self]; rfl
    obtain ⟨n, h⟩ := rad_loop l hl q rest (A ++ [t]) (upI [s, absA t.c]) (by rw [← hA]; simp)
    refine ⟨n + 1, ?_⟩
    rw [itP_s]
    simp only [aRad_l1]
    rw [decide_eq_true (show (A.length : Int) < (l.length : Int) by omega), cond_true, hg, Option.bind_some, w64 (by omega) (by omega), show ((A.length : Int) + 1) = (((A ++ [t]).length : Nat) : Int) by simp]
    exact h
theorem aRad_ok (a : Fm) (y : Int) (hg : (d1 cFrm).good a) (h : aRad_s a = some y) : ∃ n, aRad n a = some y := by
  obtain ⟨b, m, l, e⟩ := a
  obtain ⟨h1, h2⟩ := bif_some h
  have := soi h2; subst this
  have hl : l.length ≤ 549755813888 := Nat.le_of_ble_eq_true h1
  have ha : List.any [((b, (m, (l, e))) : Fm)] (fun z0 => (z0.1 || (!(Su.mayF z0)))) = !okF (b, (m, (l, e))) := by simp [okF]
  obtain ⟨n, q⟩ := rad_loop l hl (b, (m, (l, (e, ())))) l [] 0 rfl
  refine ⟨n, ?_⟩
  rw [radF_eq]
  unfold aRad
  simp only []
  rw [ha]
  cases okF (b, (m, (l, e))) with
  | false => rfl
  | true =>
    rw [Bool.not_true, cond_false, cond_true]
    exact obs q rfl
end
end Su
end
section
namespace Su
open Go Fly
set_option linter.unusedVariables false
noncomputable section
def aRest  (a : (Bool × (Int × ((List Su.Tm) × Int)))) : Option Int :=
  ((Su.aRad_s (a.1, ((0 : Int), (a.2.2.1, a.2.2.2))))).bind fun x0 =>
  some x0
def aMid  (a : Int) (b : Int) : Option Int :=
  some (((Su.addN (Int.toNat (((Su.mulN (Int.toNat a) (Int.toNat 4602678819172646912) 0) : Nat) : Int)) (Int.toNat (((Su.mulN (Int.toNat b) (Int.toNat 4602678819172646912) 0) : Nat) : Int)) 0) : Nat) : Int)
def restF (a : Fm) : Int := radF (a.1, (0, (a.2.2.1, a.2.2.2)))
def aRest_s (a : Fm) : Option Int := bif lenOK a.2.2.1 then some (restF a) else none
theorem aRest_ok (a : Fm) (y : Int) (hg : (d1 cFrm).good a) (h : aRest_s a = some y) : aRest a = some y := by
  obtain ⟨h1, h2⟩ := bif_some h
  have := soi h2; subst this
  unfold aRest aRad_s
  rw [h1]; rfl
def midI (a b : Int) : Int := addI (mulI a 4602678819172646912 0) (mulI b 4602678819172646912 0) 0
def aMid_s (p : Int × Int) : Option Int := some (midI p.1 p.2)
theorem aMid_ok (p : Int × Int) (y : Int) (hg : (dc (cI .u64) (d1 (cI .u64))).good p) (h : aMid_s p = some y) : aMid p.1 p.2 = some y := h
end
end Su
end
section
namespace Su
open Go Fly
set_option linter.unusedVariables false
noncomputable section
def rRad_l1 : (Int × (Int × (Bool × (Int × ((List Int) × ((List Int) × (Int × Unit))))))) → Option ((Int × (Int × (Bool × (Int × ((List Int) × ((List Int) × (Int × Unit))))))) ⊕ (Int × (Int × (Bool × (Int × ((List Int) × ((List Int) × (Int × Unit)))))))) := fun p1 => (bif (decide ((p1.2.1 < (((List.length p1.2.2.2.2.2.1) : Nat) : Int)))) then
  ((Su.idx p1.2.2.2.2.2.1 p1.2.1)).bind fun x2 =>
  some (.inl ((Su.addI p1.1 (Su.absI x2) 1), ((Go.IntKind.wrap .i64 (p1.2.1 + 1)), (p1.2.2.1, (p1.2.2.2.1, (p1.2.2.2.2.1, (p1.2.2.2.2.2.1, (p1.2.2.2.2.2.2.1, ()))))))))
 else
  some (.inr (p1.1, (p1.2.1, (p1.2.2.1, (p1.2.2.2.1, (p1.2.2.2.2.1, (p1.2.2.2.2.2.1, (p1.2.2.2.2.2.2.1, ())))))))))
def rRad  (fu : Nat) (a : (Bool × (Int × ((List Int) × ((List Int) × Int))))) : Option Int :=
  ((Su.rIn (a.1, (a.2.1, (a.2.2.1, (a.2.2.2.1, a.2.2.2.2)))))).bind fun x0 =>
  (bif x0.1 then
  some 9218868437227405312
 else
  (itP fu (rRad_l1) ((0 : Int), ((0 : Int), (x0.1, (x0.2.1, (x0.2.2.1, (x0.2.2.2.1, (x0.2.2.2.2, ())))))))).bind fun x3 =>
  some (Su.addI x3.1 x3.2.2.2.2.2.2.1 1))
set_option linter.unusedSimpArgs false
theorem rIn_of (a : Fm) : rIn (ofF a) = some (ofF (bif mayF a then a else badF)) := by
  unfold rIn
  refine obs (rMay_of a) ?_
  cases mayF a <;> rfl
def sumB : List Tm → Int → Int
  | [], s => s
  | t :: l, s => sumB l (addI s (absI t.c) 1)
theorem abs_fin {c : Int} (h : fI c = true) : absA c = absI c := by
  have hf := fI_iff.1 h
  unfold absA absI absF
  rw [nanK_not.2 (by omega)]; rfl
theorem sum_AB : ∀ {l : List Tm} {s : Int}, Cle s → (∀ t ∈ l, fI t.c = true) → sumA l s = sumB l s ∧ Cle (sumB l s)
  | [], _, h, _ => ⟨rfl, h⟩
  | t :: l, s, h, hl => by
    obtain ⟨h1, h2⟩ := cle_up h (wd_abs t.c)
    unfold sumA sumB
    rw [abs_fin (hl t (List.mem_cons_self ..)), h1]
    exact sum_AB h2 fun u hu => hl u (List.mem_cons_of_mem _ hu)
theorem rrad_loop (b : Bool) (m e : Int) (l : List Tm) (hl : l.length ≤ 500000000000) : ∀ (rest A : List Tm) (s : Int), A ++ rest = l →
    ∃ n, itP n rRad_l1 (s, ((A.length : Int), (b, (m, (l.map Tm.id, (l.map Tm.c, (e, ()))))))) = some (sumB rest s, ((l.length : Int), (b, (m, (l.map Tm.id, (l.map Tm.c, (e, ())))))))
  | [], A, s, hA => by
    rw [List.append_nil] at hA; subst hA
    refine ⟨1, ?_⟩
    rw [itP_s]
    simp only [rRad_l1, List.length_map]
    rw [decide_eq_false (by omega), cond_false]; rfl
  | t :: rest, A, s, hA => by
    have hNl : A.length + (rest.length + 1) = l.length := by rw [← hA]; simp
    have hc : idx (l.map Tm.c) (A.length : Int) = some t.c := by rw [← hA]; exact idx_mid Tm.c A t rest
    have hlt : decide ((A.length : Int) < ((l.length : Nat) : Int)) = true := decide_eq_true (by omega)
    have hw : IntKind.i64.wrap ((A.length : Int) + 1) = (((A ++ [t]).length : Nat) : Int) := by rw [w64 (by omega) (by omega)]; simp
    obtain ⟨n, h⟩ := rrad_loop b m e l hl rest (A ++ [t]) (addI s (absI t.c) 1) (by rw [← hA]; simp)
    refine ⟨n + 1, ?_⟩
    rw [itP_s]
    simp only [rRad_l1, List.length_map, hc, hlt, cond_true, Option.bind_some, hw]
    exact h
def rRad_s (x : Rf) : Option Int := bif okR x then some (radF (toF x)) else none
theorem rad_ok {a : Fm} (h : Tells a) : radF a = addI (sumB a.2.2.1 0) a.2.2.2 1 := by
  obtain ⟨h1, h2⟩ := sum_AB (l := a.2.2.1) cle_0 h.ft
  rw [radF_eq, okF_tells h, cond_true, h1, (cle_up h2 h.we).1]
theorem rRad_ok (x : Rf) (y : Int) (hg : (d1 cRf).good x) (h : rRad_s x = some y) : ∃ n, rRad n x = some y := by
  obtain ⟨hx, h2⟩ := bif_some h
  have := soi h2; subst this
  revert hg
  refine onR (P := fun x => (d1 cRf).good x → ∃ n, rRad n x = some (radF (toF x))) (fun a hl hg => ?_) hx
  have hw := wf_good hg
  rw [to_of]
  obtain ⟨b, m, l, e⟩ := a
  have hl : l.length ≤ 500000000000 := hl
  unfold rRad
  rcases okF_cases (b, (m, (l, e))) with ⟨h1, h2⟩ | ⟨h1, h2, h3, h4⟩ | ⟨h1, h2, h3⟩
  · refine ⟨0, obs (rIn_of (b, (m, (l, e)))) ?_⟩
    rw [radF_eq, h1, h2]; rfl
  · have h3 : b = true := h3
    subst h3
    refine ⟨0, obs (rIn_of (true, (m, (l, e)))) ?_⟩
    rw [radF_eq, h1, h2]; rfl
  · have h3 : b = false := h3
    have ht := tells (a := (b, (m, (l, e)))) h3 h2 hw.1 hw.2.1 hw.2.2
    subst h3
    obtain ⟨n, q⟩ := rrad_loop false m e l hl l [] 0 rfl
    refine ⟨n, obs (rIn_of (false, (m, (l, e)))) ?_⟩
    rw [rad_ok ht, h2, cond_true, show (ofF (false, (m, (l, e)))).1 = false from rfl, cond_false]
    exact obs q rfl
end
end Su
end
section
namespace Su
open Go Fly
set_option linter.unusedVariables false
noncomputable section
def aMore  (a : (Bool × (Int × ((List Su.Tm) × Int)))) (e : Int) : Option (Bool × (Int × ((List Su.Tm) × Int))) :=
  (bif (List.any [(a.1, (a.2.1, (a.2.2.1, a.2.2.2)))] (fun z0 => (z0.1 || (!(Su.mayF z0))))) then
  some (true, ((0 : Int), ([], (0 : Int))))
 else
  (bif (!(Su.finK (Su.bK (Int.toNat e)))) then
  some (true, ((0 : Int), ([], (0 : Int))))
 else
  ((bif (Su.lenOK a.2.2.1) then
  some a.2.2.1
 else
  none)).bind fun x1 =>
  (bif (true && (Nat.beq (List.length (List.map (Su.vT) x1)) (List.length (List.map (Su.vT) x1)))) then
  ((((((Su.unTms (List.map (Su.vT) x1))).bind fun x2 =>
  some (x2, (((Su.upS 0 [a.2.2.2, (((Su.absF (Int.toNat e)) : Nat) : Int)]) : Nat) : Int))).bind fun x3 =>
  some (a.2.1, x3)).bind fun x4 =>
  some (a.1, x4)).bind fun x5 =>
  some (Su.doneF x5)).bind fun x6 =>
  some (x6.1, (x6.2.1, (x6.2.2.1, x6.2.2.2)))
 else
  none)))
def aSpan  (a : (Bool × (Int × ((List Su.Tm) × Int)))) : Option (Bool × (Int × Int)) :=
  (bif (List.any [(a.1, (a.2.1, (a.2.2.1, a.2.2.2)))] (fun z0 => (z0.1 || (!(Su.mayF z0))))) then
  some (false, ((Su.nzI ((18442240474082181120 : Nat) : Int)), (Su.nzI ((9218868437227405312 : Nat) : Int))))
 else
  ((Su.aRad_s (a.1, (a.2.1, (a.2.2.1, a.2.2.2))))).bind fun x1 =>
  some ((Su.normS (false, ((((Su.addN (Int.toNat a.2.1) (Int.toNat (((Su.negF (Int.toNat x1)) : Nat) : Int)) 2) : Nat) : Int), (((Su.addN (Int.toNat a.2.1) (Int.toNat x1) 1) : Nat) : Int)))).1, ((Su.normS (false, ((((Su.addN (Int.toNat a.2.1) (Int.toNat (((Su.negF (Int.toNat x1)) : Nat) : Int)) 2) : Nat) : Int), (((Su.addN (Int.toNat a.2.1) (Int.toNat x1) 1) : Nat) : Int)))).2.1, (Su.normS (false, ((((Su.addN (Int.toNat a.2.1) (Int.toNat (((Su.negF (Int.toNat x1)) : Nat) : Int)) 2) : Nat) : Int), (((Su.addN (Int.toNat a.2.1) (Int.toNat x1) 1) : Nat) : Int)))).2.2)))
def rNrm  (s : (Bool × (Int × Int))) : Option (Bool × (Int × Int)) :=
  (bif (Su.cmpO (Int.toNat s.2.1) (Int.toNat s.2.2)) then
  (bif s.1 then
  some (true, ((0 : Int), (0 : Int)))
 else
  (bif (!(decide (((Su.cmpC (Int.toNat s.2.1) (Int.toNat s.2.2)) ≤ 0)))) then
  some (true, ((0 : Int), (0 : Int)))
 else
  (bif (decide ((s.2.1 = 9218868437227405312))) then
  some (true, ((0 : Int), (0 : Int)))
 else
  (bif (decide ((s.2.2 = 18442240474082181120))) then
  some (true, ((0 : Int), (0 : Int)))
 else
  (bif (decide ((s.2.1 = 9223372036854775808))) then
  (bif (decide ((s.2.2 = 9223372036854775808))) then
  some (s.1, ((0 : Int), (0 : Int)))
 else
  some (s.1, ((0 : Int), s.2.2)))
 else
  (bif (decide ((s.2.2 = 9223372036854775808))) then
  some (s.1, (s.2.1, (0 : Int)))
 else
  some (s.1, (s.2.1, s.2.2))))))))
 else
  (bif s.1 then
  some (true, ((0 : Int), (0 : Int)))
 else
  some (true, ((0 : Int), (0 : Int)))))
def rMore  (a : (Bool × (Int × ((List Int) × ((List Int) × Int))))) (e : Int) : Option (Bool × (Int × ((List Int) × ((List Int) × Int)))) :=
  ((Su.rIn (a.1, (a.2.1, (a.2.2.1, (a.2.2.2.1, a.2.2.2.2)))))).bind fun x0 =>
  (bif x0.1 then
  some (true, ((0 : Int), ([], ([], (0 : Int)))))
 else
  (bif (!(Su.finK (Su.bK (Int.toNat e)))) then
  some (true, ((0 : Int), ([], ([], (0 : Int)))))
 else
  ((Su.rDone_s (x0.1, (x0.2.1, (x0.2.2.1, (x0.2.2.2.1, (Su.addI x0.2.2.2.2 (Su.absI e) 1))))))).bind fun x1 =>
  some (x1.1, (x1.2.1, (x1.2.2.1, (x1.2.2.2.1, x1.2.2.2.2))))))
set_option linter.unusedSimpArgs false
def moreF (a : Fm) (e : Int) : Fm := bif okF a && fI e then doneF (a.1, (a.2.1, (a.2.2.1, upI [a.2.2.2, absA e]))) else badF
def aMore_s (p : Fm × Int) : Option Fm := bif lenOK p.1.2.2.1 then some (moreF p.1 p.2) else none
theorem aMore_ok (p : Fm × Int) (y : Fm) (hg : (dc cFrm (d1 (cI .u64))).good p) (h : aMore_s p = some y) : aMore p.1 p.2 = some y := by
  obtain ⟨⟨b, m, l, r⟩, e⟩ := p
  obtain ⟨h1, h2⟩ := bif_some h
  have := soi h2; subst this
  have h1 : lenOK l = true := h1
  have ha : List.any [((b, (m, (l, r))) : Fm)] (fun z0 => (z0.1 || (!(Su.mayF z0)))) = !okF (b, (m, (l, r))) := by simp [okF]
  have hf : ∀ f : Int, finK (bK (Int.toNat f)) = fI f := fun _ => rfl
  unfold aMore moreF
  simp only []
  rw [ha, hf]
  cases okF (b, (m, (l, r))) with
  | false => rfl
  | true =>
    cases fI e with
    | false => rfl
    | true =>
      simp only [Bool.not_true, cond_false, cond_true, Bool.and_self, h1, Option.bind_some, beq_self]
      exact obs (obs (obs (obs (obs (unTms_map l) rfl) rfl) rfl) rfl) rfl
def spanF (a : Fm) : Spn := bif okF a then normS (false, (addI a.2.1 (negI (radF a)) 2, addI a.2.1 (radF a) 1)) else (false, (18442240474082181120, 9218868437227405312))
def aSpan_s (a : Fm) : Option Spn := bif lenOK a.2.2.1 then some (spanF a) else none
theorem aSpan_ok (a : Fm) (y : Spn) (hg : (d1 cFrm).good a) (h : aSpan_s a = some y) : aSpan a = some y := by
  obtain ⟨b, m, l, r⟩ := a
  obtain ⟨h1, h2⟩ := bif_some h
  have := soi h2; subst this
  have h1 : lenOK l = true := h1
  have ha : List.any [((b, (m, (l, r))) : Fm)] (fun z0 => (z0.1 || (!(Su.mayF z0)))) = !okF (b, (m, (l, r))) := by simp [okF]
  unfold aSpan spanF aRad_s
  simp only []
  rw [ha]
  cases okF (b, (m, (l, r))) with
  | false => rfl
  | true =>
    rw [Bool.not_true, cond_false, cond_true, h1, cond_true]; rfl
theorem nz_eq {f : Int} (w : Wd64 f) : nzI f = bif decide (f = 9223372036854775808) then 0 else f := by
  obtain ⟨n, rfl, hn⟩ := w
  unfold nzI
  by_cases h1 : ((n : Nat) : Int) = 9223372036854775808
  · rw [decide_eq_true h1, cond_true, zI_iff.2 (by rw [Int.toNat_natCast]; unfold bK; omega), cond_true]
  · rw [decide_eq_false h1, cond_false]
    cases hz : zI (n : Int) with
    | false => rfl
    | true =>
      have := zI_iff.1 hz
      rw [Int.toNat_natCast] at this
      unfold bK at this
      have h0 : n = 0 := by omega
      subst h0; rfl
def rNrm_s (s : Spn) : Option Spn := some (normS s)
theorem rNrm_ok (s y : Spn) (hg : (d1 cSpn).good s) (h : rNrm_s s = some y) : rNrm s = some y := by
  obtain ⟨b, lo, hi⟩ := s
  have := soi h; subst this
  have w1 : Wd64 lo := wd_of hg.2.1
  have w2 : Wd64 hi := wd_of hg.2.2
  unfold rNrm normS leF
  simp only [nz_eq w1, nz_eq w2]
  cases cmpO lo.toNat hi.toNat <;> cases b <;> (try rfl) <;> cases decide (cmpC lo.toNat hi.toNat ≤ 0) <;> (try rfl) <;> cases decide (lo = 9218868437227405312) <;> (try rfl) <;> cases decide (hi = 18442240474082181120) <;> (try rfl) <;>
    cases decide (lo = 9223372036854775808) <;> cases decide (hi = 9223372036854775808) <;> rfl
theorem cle_err {e : Int} (w : Wd64 e) (hf : fI e = true) (hs : Int.fdiv e (2 ^ 63) = 0) : Cle e := by
  obtain ⟨E, rfl, hE⟩ := w
  rw [fd_pow] at hs
  have hE2 : E < 9223372036854775808 := by omega
  have hk : bK E = E := by unfold bK; omega
  have hc : Cln E := by
    have := fI_iff.1 hf
    rw [Int.toNat_natCast] at this
    by_cases h0 : E = 0
    · exact .inr (.inl h0)
    · exact .inr (.inr ⟨nanK_not.2 (by omega), by rw [hk]; exact h0⟩)
  refine ⟨⟨E, rfl, hE⟩, by omega, ?_⟩
  have h := addF_0 hc
  unfold addI
  rw [addN_eq, Int.toNat_natCast, show (0 : Int).toNat = 0 from rfl, h]
def rMore_s (p : Rf × Int) : Option Rf := bif okR p.1 then some (ofF (moreF (toF p.1) p.2)) else none
theorem rMore_ok (p : Rf × Int) (y : Rf) (hg : (dc cRf (d1 (cI .u64))).good p) (h : rMore_s p = some y) : rMore p.1 p.2 = some y := by
  obtain ⟨x, e⟩ := p
  obtain ⟨hx, h2⟩ := bif_some h
  have := soi h2; subst this
  have gx : cRf.good x := hg.1
  have we : Wd64 e := wd_of hg.2
  clear hg h h2
  simp only []
  revert gx
  refine onR (P := fun x => cRf.good x → rMore x e = some (ofF (moreF (toF x) e))) (fun a hl gx => ?_) hx
  have wa := wf_good gx
  have hf : ∀ f : Int, finK (bK (Int.toNat f)) = fI f := fun _ => rfl
  rw [to_of]
  unfold rMore moreF
  refine obs (rIn_of a) ?_
  rcases okF_cases a with ⟨h1, h2⟩ | ⟨h1, h2, h3, h4⟩ | ⟨h1, h2, h3⟩
  · rw [h1, h2]; rfl
  · rw [h1, h2, h4]; rfl
  · have ta := tells h3 h2 wa.1 wa.2.1 wa.2.2
    rw [h1, h2, hf, cond_true, show (ofF a).1 = false from h3, cond_false, Bool.true_and]
    cases he : fI e with
    | false => rfl
    | true =>
      rw [Bool.not_true, cond_false, cond_true, (cle_up (cle_err ta.we ta.fe ta.se) (by rw [abs_fin he]; exact wd_abs e)).1, abs_fin he, h3]
      have hr := rDone_of (a := (false, (a.2.1, (a.2.2.1, addI a.2.2.2 (absI e) 1)))) (by simp only []; omega)
      exact obs hr rfl
end
end Su
end
section
namespace Su
open Go Fly
theorem bK_sgn {neg : Bool} {z : Nat} (h : z < 9223372036854775808) : bK (sgN neg + z) = z := by
  unfold bK sgN
  cases neg with
  | true => rw [cond_true]; omega
  | false => rw [cond_false]; omega
theorem pw3 (n a b c : Nat) (h : n + a + 1 = b + c) : 2 ^ n * 2 ^ a * 2 = 2 ^ b * 2 ^ c := by
  rw [← Nat.pow_add, ← Nat.pow_succ, ← Nat.pow_add]
  exact congrArg _ h
theorem half_floor {k M E : Nat} (hM : M ≠ 0) (hp : M * 2 ^ E * 2 = kV k * 2 ^ SH) : floorN M E < k := by
  refine Nat.lt_of_not_le fun hle => ?_
  have h1 := (key_le hM).2 hle
  have h2 : 1 ≤ M * 2 ^ E := Nat.mul_le_mul (show 1 ≤ M by omega) (Nat.two_pow_pos E)
  generalize M * 2 ^ E = z at *
  generalize kV k * 2 ^ SH = Z at *
  omega
theorem RN_fin {neg : Bool} {mode : Int} {M E : Nat} (hM : M ≠ 0) (h : floorN M E < 9218868437227405311) : bK (RN neg mode M E false) ≤ 9218868437227405311 := by
  unfold RN
  rw [beq0 hM, cond_false]
  have hu : (upN neg mode (keepN M E % 2 == 1) (hfN M E) (false || rsN M E)).toNat ≤ 1 := by
    generalize upN neg mode (keepN M E % 2 == 1) (hfN M E) (false || rsN M E) = b
    cases b <;> decide
  generalize (upN neg mode (keepN M E % 2 == 1) (hfN M E) (false || rsN M E)).toNat = u at *
  have hf : finN (twN neg mode) (floorN M E + u) ≤ 9218868437227405311 := by
    unfold finN
    rw [Nat.ble_eq_true_of_le (show floorN M E + u ≤ topN by unfold topN; omega), cond_true]
    omega
  rw [bK_sgn (by omega)]
  exact hf
def hlf : Nat := 4602678819172646912
theorem half_facts : nanK (bK hlf) = false ∧ infK (bK hlf) = false ∧ kM (bK hlf) = 2 ^ 52 ∧ kE (bK hlf) = 1021 := ⟨rfl, rfl, rfl, rfl⟩
theorem half_key {k C E : Nat} (fa : k ≤ 9218868437227405311) (h0 : k ≠ 0) (neg : Bool) (mode : Int) (hC : C ≠ 0) (h : C * 2 ^ E * 2 = 2 ^ kE k * 2 ^ SH) : bK (RN neg mode (kM k * C) E false) ≤ 9218868437227405311 := by
  obtain ⟨k1, k2, k3, k4⟩ := kM_facts fa
  have k2 := k2 h0
  have hM : kM k * C ≠ 0 := Nat.mul_ne_zero (by omega) hC
  have hp : kM k * C * 2 ^ E * 2 = kV k * 2 ^ SH := by
    unfold kV
    rw [Nat.mul_assoc (kM k) C, Nat.mul_assoc (kM k), h, Nat.mul_assoc]
  have := half_floor hM hp
  exact RN_fin hM (by omega)
theorem half_fin' {a b C e : Nat} {mode : Int} (fa : bK a ≤ 9218868437227405311) (n2 : nanK (bK b) = false) (i2 : infK (bK b) = false) (m2 : kM (bK b) = C) (e2 : kE (bK b) = e) (hC : C ≠ 0)
    (hh : ∀ x, C * 2 ^ (x + e + 3852) * 2 = 2 ^ x * 2 ^ SH) : bK (mulF a b mode) ≤ 9218868437227405311 := by
  have n1 : nanK (bK a) = false := nanK_not.2 (by omega)
  have i1 : infK (bK a) = false := by unfold infK; rw [beq_dec]; exact decide_eq_false (by omega)
  unfold mulF
  rw [n1, n2, i1, i2, m2, e2]
  generalize (!decide (bS a = bS b)) = neg
  generalize bK a = k at *
  have hk := hh (kE k)
  generalize kE k + e + 3852 = E at *
  simp only [cond_false, Bool.or_self, Bool.false_and]
  by_cases h0 : k = 0
  · rw [kM_zero.2 h0, Nat.zero_mul, RN_zero]
    have := bK_sgn (neg := neg) (z := 0) (by omega)
    rw [Nat.add_zero] at this
    rw [this]; omega
  · exact half_key fa h0 neg mode hC hk
theorem half_pw {c e : Nat} (h : c + e + 3853 = SH) (x : Nat) : 2 ^ c * 2 ^ (x + e + 3852) * 2 = 2 ^ x * 2 ^ SH := pw3 _ _ _ _ (by omega)
theorem half_fin {a : Nat} {mode : Int} (fa : bK a ≤ 9218868437227405311) : bK (mulF a hlf mode) ≤ 9218868437227405311 :=
  half_fin' fa half_facts.1 half_facts.2.1 half_facts.2.2.1 half_facts.2.2.2 (Nat.ne_of_gt (Nat.two_pow_pos 52)) (half_pw (by rw [SH_eq]))
theorem sg_num (c : Bool) : nanK (bK (sgN c)) = false := by cases c <;> rfl
theorem RN_num (neg : Bool) (mode : Int) (M E : Nat) : nanK (bK (RN neg mode M E false)) = false := by
  unfold RN
  cases Nat.beq M 0 with
  | true =>
    rw [cond_true, bK_sgn (by omega)]; rfl
  | false =>
    rw [cond_false]
    have := finN_le (twN neg mode) (floorN M E + (upN neg mode (keepN M E % 2 == 1) (hfN M E) (false || rsN M E)).toNat)
    rw [bK_sgn (by omega)]
    exact nanK_not.2 this
theorem addO_num (x y : Nat) (mode : Int) : nanK (bK (addO x y mode)) = false := by
  unfold addO addX
  split
  · exact RN_num _ _ _ _
  · split
    · exact sg_num _
    · exact RN_num _ _ _ _
theorem add_num {a b : Nat} {mode : Int} (fa : nanK (bK a) = false) (fb : bK b ≤ 9218868437227405311) : nanK (bK (addF a b mode)) = false := by
  have n2 : nanK (bK b) = false := nanK_not.2 (by omega)
  have i2 : infK (bK b) = false := by unfold infK; rw [beq_dec]; exact decide_eq_false (by omega)
  unfold addF
  rw [fa, n2, i2]
  simp only [cond_false, Bool.false_and, Bool.and_false]
  cases infK (bK a) <;> simp only [cond_true, cond_false]
  · cases Nat.beq (bK a) 0 <;> cases Nat.beq (bK b) 0 <;> cases decide (bS a = bS b) <;> simp only [cond_true, cond_false, Bool.true_and, Bool.false_and, Bool.and_self]
    all_goals first | exact fa | exact n2 | exact sg_num _ | (cases swapF a b <;> exact addO_num _ _ _)
  · exact fa
theorem add_num' {a b : Nat} {mode : Int} (fa : bK a ≤ 9218868437227405311) (fb : nanK (bK b) = false) : nanK (bK (addF a b mode)) = false := by
  have n2 : nanK (bK a) = false := nanK_not.2 (by omega)
  have i2 : infK (bK a) = false := by unfold infK; rw [beq_dec]; exact decide_eq_false (by omega)
  unfold addF
  rw [fb, n2, i2]
  simp only [cond_false, Bool.false_and, Bool.and_false]
  cases infK (bK b) <;> simp only [cond_true, cond_false]
  · cases Nat.beq (bK a) 0 <;> cases Nat.beq (bK b) 0 <;> cases decide (bS a = bS b) <;> simp only [cond_true, cond_false, Bool.true_and, Bool.false_and, Bool.and_self]
    all_goals first | exact n2 | exact fb | exact sg_num _ | (cases swapF a b <;> exact addO_num _ _ _)
  · exact fb
theorem max_num {a b : Nat} (fa : nanK (bK a) = false) (fb : nanK (bK b) = false) : maxN a b = bif decide (cmpC a b < 0) then b else a := by
  unfold maxN lessF cmpO
  rw [fa, fb]
  rfl
end Su
end
section
namespace Su
open Go Fly
set_option linter.unusedVariables false
noncomputable section
set_option linter.unusedSimpArgs false
end
end Su
end
