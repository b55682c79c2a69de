/-
  What functions of the program compute, in plain Lean, and that the evaluator finds it.
-/
import Derived.Test.YtnegfdebjikfiaaGreatSuSd
import Derived.Test.YtnegfdebjikfiaaGreatNC19
import Derived.Test.YtnegfdebjikfiaaGreatRcs
import Derived.Test.YtnegfdebjikfiaaGreatRsm
set_option maxRecDepth 10000
section
namespace Su
open Go Fly
set_option linter.unusedVariables false
noncomputable section
theorem done_len (x : Fm) : (doneF x).2.2.1.length ≤ x.2.2.1.length := by
  rw [doneF_eq]
  cases ((fI (nzI x.2.1) && fI (nzI x.2.2.2)) && !((delZ x.2.2.1).any fun t => !fI t.c)) with
  | true => exact List.length_filter_le _ _
  | false => exact Nat.zero_le _
theorem mergeN_len (f : Int → Int → Int → Int × Int) : ∀ (n : Nat) (l m : List Tm) (e : Int), (mergeN f n l m e).1.length ≤ n
  | 0, _, _, _ => Nat.le_refl _
  | n + 1, [], [], _ => Nat.zero_le _
  | n + 1, a :: l, [], e => Nat.succ_le_succ (mergeN_len f n l [] _)
  | n + 1, [], b :: m, e => Nat.succ_le_succ (mergeN_len f n [] m _)
  | n + 1, a :: l, b :: m, e => by
    simp only [mergeN]
    cases decide (a.id < b.id) with
    | true => exact Nat.succ_le_succ (mergeN_len f n l (b :: m) _)
    | false =>
      cases decide (b.id < a.id) with
      | true => exact Nat.succ_le_succ (mergeN_len f n (a :: l) m _)
      | false => exact Nat.succ_le_succ (mergeN_len f n l m _)
theorem add_len (a b : Fm) : (addFm a b).2.2.1.length ≤ a.2.2.1.length + b.2.2.1.length := by
  rw [addFm_eq]
  unfold addO'
  cases okF a && okF b with
  | true => exact Nat.le_trans (done_len _) (mergeN_len _ _ _ _ _)
  | false => exact Nat.zero_le _
end
end Su
end
section
namespace Su
open Go Fly
set_option linter.unusedVariables false
noncomputable section
def lSum  (a : (Bool × (Int × ((List Su.Tm) × Int)))) (b : (Bool × (Int × ((List Su.Tm) × Int)))) : Option Bool :=
  (bif (decide ((40 < (((List.length a.2.2.1) : Nat) : Int)))) then
  some true
 else
  (bif (decide ((40 < (((List.length b.2.2.1) : Nat) : Int)))) then
  some true
 else
  ((Su.aSum_s ((a.1, (a.2.1, (a.2.2.1, a.2.2.2))), (b.1, (b.2.1, (b.2.2.1, b.2.2.2)))))).bind fun x0 =>
  ((Su.lOf_s (a.1, (a.2.1, (a.2.2.1, a.2.2.2))))).bind fun x1 =>
  ((Su.lOf_s (b.1, (b.2.1, (b.2.2.1, b.2.2.2))))).bind fun x2 =>
  ((Su.rAdd_s ((x1.1, (x1.2.1, (x1.2.2.1, (x1.2.2.2.1, x1.2.2.2.2)))), (x2.1, (x2.2.1, (x2.2.2.1, (x2.2.2.2.1, x2.2.2.2.2))))))).bind fun x3 =>
  ((Su.lIs_s ((x0.1, (x0.2.1, (x0.2.2.1, x0.2.2.2))), (x3.1, (x3.2.1, (x3.2.2.1, (x3.2.2.2.1, x3.2.2.2.2))))))).bind fun x4 =>
  ((Su.aSub_s ((a.1, (a.2.1, (a.2.2.1, a.2.2.2))), (b.1, (b.2.1, (b.2.2.1, b.2.2.2)))))).bind fun x5 =>
  ((Su.lOf_s (a.1, (a.2.1, (a.2.2.1, a.2.2.2))))).bind fun x6 =>
  ((Su.lOf_s (b.1, (b.2.1, (b.2.2.1, b.2.2.2))))).bind fun x7 =>
  ((Su.rNeg_s (x7.1, (x7.2.1, (x7.2.2.1, (x7.2.2.2.1, x7.2.2.2.2)))))).bind fun x8 =>
  ((Su.rAdd_s ((x6.1, (x6.2.1, (x6.2.2.1, (x6.2.2.2.1, x6.2.2.2.2)))), (x8.1, (x8.2.1, (x8.2.2.1, (x8.2.2.2.1, x8.2.2.2.2))))))).bind fun x9 =>
  ((Su.lIs_s ((x5.1, (x5.2.1, (x5.2.2.1, x5.2.2.2))), (x9.1, (x9.2.1, (x9.2.2.1, (x9.2.2.2.1, x9.2.2.2.2))))))).bind fun x10 =>
  (bif x4 then
  some x10
 else
  some false)))
theorem neg_len (a : Fm) : (negFm a).2.2.1.length ≤ a.2.2.1.length := by
  unfold negFm
  cases okF a with
  | true => exact Nat.le_trans (done_len _) (by simp)
  | false => exact Nat.zero_le _
theorem lOf_of {a : Fm} (h : a.2.2.1.length ≤ 500000000000) : lOf_s a = some (ofF a) := by
  unfold lOf_s
  rw [Nat.ble_eq_true_of_le h, cond_true]
theorem rAdd_of {a b : Fm} (h : a.2.2.1.length + b.2.2.1.length ≤ 500000000000) : rAdd_s (ofF a, ofF b) = some (ofF (addFm a b)) := by
  unfold rAdd_s
  simp only []
  have hl1 : (ofF a).2.2.1.length = a.2.2.1.length := List.length_map ..
  have hl2 : (ofF b).2.2.1.length = b.2.2.1.length := List.length_map ..
  rw [okR_of (by omega), okR_of (by omega), hl1, hl2, Nat.ble_eq_true_of_le h, to_of, to_of]
  rfl
theorem rNeg_of {a : Fm} (h : a.2.2.1.length ≤ 500000000000) : rNeg_s (ofF a) = some (ofF (negFm a)) := by
  unfold rNeg_s
  rw [okR_of h, to_of, cond_true]
def lSum_s (_ : Fm × Fm) : Option Bool := some true
theorem lSum_ok (p : Fm × Fm) (y : Bool) (hg : (dc cFrm (d1 cFrm)).good p) (h : lSum_s p = some y) : lSum p.1 p.2 = some y := by
  obtain ⟨a, b⟩ := p
  have := soi h; subst this
  unfold lSum
  simp only []
  by_cases ha : 40 < (a.2.2.1.length : Int)
  · rw [decide_eq_true ha]; rfl
  by_cases hb : 40 < (b.2.2.1.length : Int)
  · rw [decide_eq_true hb]; cases decide (40 < (a.2.2.1.length : Int)) <;> rfl
  rw [decide_eq_false ha, decide_eq_false hb, cond_false, cond_false]
  have hn := neg_len b
  have s1 : aSum_s (a, b) = some (addFm a b) := by
    unfold aSum_s
    simp only []
    rw [Nat.ble_eq_true_of_le (by omega), cond_true]
  have s2 : aSub_s (a, b) = some (addFm a (negFm b)) := by
    unfold aSub_s lenOK
    simp only []
    rw [Nat.ble_eq_true_of_le (by omega), Nat.ble_eq_true_of_le (by omega)]; rfl
  have l1 := add_len a b
  have l2 := add_len a (negFm b)
  refine obs s1 (obs (lOf_of (a := a) (by omega)) (obs (lOf_of (a := b) (by omega)) (obs (rAdd_of (a := a) (b := b) (by omega)) (obs (lIs_of (a := addFm a b) (by omega)) ?_))))
  refine obs s2 (obs (lOf_of (a := a) (by omega)) (obs (lOf_of (a := b) (by omega)) (obs (rNeg_of (a := b) (by omega)) (obs (rAdd_of (a := a) (b := negFm b) (by omega)) (obs (lIs_of (a := addFm a (negFm b)) (by omega)) ?_)))))
  rfl
end
end Su
end
section
namespace Su
open Go Fly
set_option linter.unusedVariables false
noncomputable section
def aRad_l1 : (Int × ((List Su.Tm) × (Int × (Int × (Bool × (Int × ((List Su.Tm) × (Int × Unit)))))))) → Option ((Int × ((List Su.Tm) × (Int × (Int × (Bool × (Int × ((List Su.Tm) × (Int × Unit)))))))) ⊕ (Int × ((List Su.Tm) × (Int × (Int × (Bool × (Int × ((List Su.Tm) × (Int × Unit))))))))) := fun p1 => (bif (decide ((p1.2.2.2.1 < p1.2.2.1))) then
  ((Su.idx p1.2.1 p1.2.2.2.1)).bind fun x2 =>
  some (.inl ((((Su.upS 0 [p1.1, (((Su.absF (Int.toNat (Su.Tm.c x2))) : Nat) : Int)]) : Nat) : Int), (p1.2.1, (p1.2.2.1, ((Go.IntKind.wrap .i64 (p1.2.2.2.1 + 1)), (p1.2.2.2.2.1, (p1.2.2.2.2.2.1, (p1.2.2.2.2.2.2.1, (p1.2.2.2.2.2.2.2.1, ())))))))))
 else
  some (.inr (p1.1, (p1.2.1, (p1.2.2.1, (p1.2.2.2.1, (p1.2.2.2.2.1, (p1.2.2.2.2.2.1, (p1.2.2.2.2.2.2.1, (p1.2.2.2.2.2.2.2.1, ()))))))))))
def aRad  (fu : Nat) (a : (Bool × (Int × ((List Su.Tm) × Int)))) : Option Int :=
  (bif (List.any [(a.1, (a.2.1, (a.2.2.1, a.2.2.2)))] (fun z0 => (z0.1 || (!(Su.mayF z0))))) then
  some ((9218868437227405312 : Nat) : Int)
 else
  (itP fu (aRad_l1) ((0 : Int), (a.2.2.1, ((((List.length a.2.2.1) : Nat) : Int), ((0 : Int), (a.1, (a.2.1, (a.2.2.1, (a.2.2.2, ()))))))))).bind fun x3 =>
  some (((Su.upS 0 [x3.1, x3.2.2.2.2.2.2.2.1]) : Nat) : Int))
def absA (c : Int) : Int := ((absF c.toNat : Nat) : Int)
def sumA : List Tm → Int → Int
  | [], s => s
  | t :: l, s => sumA l (upI [s, absA t.c])
def radL : {f : Fm → Int // ∀ a, f a = bif okF a then upI [sumA a.2.2.1 0, a.2.2.2] else 9218868437227405312} := Classical.choice ⟨⟨_, fun _ => rfl⟩⟩
def radF (a : Fm) : Int := radL.1 a
theorem radF_eq (a : Fm) : radF a = bif okF a then upI [sumA a.2.2.1 0, a.2.2.2] else 9218868437227405312 := radL.2 a
def aRad_s (a : Fm) : Option Int := bif lenOK a.2.2.1 then some (radF a) else none
theorem rad_loop (l : List Tm) (hl : l.length ≤ 549755813888) (q : Bool × (Int × (List Tm × (Int × Unit)))) : ∀ (rest A : List Tm) (s : Int), A ++ rest = l →
    ∃ n, itP n aRad_l1 (s, (l, ((l.length : Int), ((A.length : Int), q)))) = some (sumA rest s, (l, ((l.length : Int), ((l.length : Int), q))))
  | [], A, s, hA => by
    rw [List.append_nil] at hA; subst hA
    refine ⟨1, ?_⟩
    rw [itP_s]
    simp only [aRad_l1]
    rw [decide_eq_false (by omega), cond_false]; rfl
  | t :: rest, A, s, hA => by
    have hNl : A.length + (rest.length + 1) = l.length := by rw [← hA]; simp
    have hg : idx l (A.length : Int) = some t := by
      rw [idx_nat, ← hA, List.getElem?_append_right (by omega), Nat.sub_self]; rfl
    obtain ⟨n, h⟩ := rad_loop l hl q rest (A ++ [t]) (upI [s, absA t.c]) (by rw [← hA]; simp)
    refine ⟨n + 1, ?_⟩
    rw [itP_s]
    simp only [aRad_l1]
    rw [decide_eq_true (show (A.length : Int) < (l.length : Int) by omega), cond_true, hg, Option.bind_some, w64 (by omega) (by omega), show ((A.length : Int) + 1) = (((A ++ [t]).length : Nat) : Int) by simp]
    exact h
theorem aRad_ok (a : Fm) (y : Int) (hg : (d1 cFrm).good a) (h : aRad_s a = some y) : ∃ n, aRad n a = some y := by
  obtain ⟨b, m, l, e⟩ := a
  obtain ⟨h1, h2⟩ := bif_some h
  have := soi h2; subst this
  have hl : l.length ≤ 549755813888 := Nat.le_of_ble_eq_true h1
  have ha : List.any [((b, (m, (l, e))) : Fm)] (fun z0 => (z0.1 || (!(Su.mayF z0)))) = !okF (b, (m, (l, e))) := by simp [okF]
  obtain ⟨n, q⟩ := rad_loop l hl (b, (m, (l, (e, ())))) l [] 0 rfl
  refine ⟨n, ?_⟩
  rw [radF_eq]
  unfold aRad
  simp only []
  rw [ha]
  cases okF (b, (m, (l, e))) with
  | false => rfl
  | true =>
    rw [Bool.not_true, cond_false, cond_true]
    exact obs q rfl
end
end Su
end
section
namespace Su
open Go Fly
set_option linter.unusedVariables false
noncomputable section
def aRest  (a : (Bool × (Int × ((List Su.Tm) × Int)))) : Option Int :=
  ((Su.aRad_s (a.1, ((0 : Int), (a.2.2.1, a.2.2.2))))).bind fun x0 =>
  some x0
def aMid  (a : Int) (b : Int) : Option Int :=
  some (((Su.addN (Int.toNat (((Su.mulN (Int.toNat a) (Int.toNat 4602678819172646912) 0) : Nat) : Int)) (Int.toNat (((Su.mulN (Int.toNat b) (Int.toNat 4602678819172646912) 0) : Nat) : Int)) 0) : Nat) : Int)
def restF (a : Fm) : Int := radF (a.1, (0, (a.2.2.1, a.2.2.2)))
def aRest_s (a : Fm) : Option Int := bif lenOK a.2.2.1 then some (restF a) else none
theorem aRest_ok (a : Fm) (y : Int) (hg : (d1 cFrm).good a) (h : aRest_s a = some y) : aRest a = some y := by
  obtain ⟨h1, h2⟩ := bif_some h
  have := soi h2; subst this
  unfold aRest aRad_s
  rw [h1]; rfl
def midI (a b : Int) : Int := addI (mulI a 4602678819172646912 0) (mulI b 4602678819172646912 0) 0
def aMid_s (p : Int × Int) : Option Int := some (midI p.1 p.2)
theorem aMid_ok (p : Int × Int) (y : Int) (hg : (dc (cI .u64) (d1 (cI .u64))).good p) (h : aMid_s p = some y) : aMid p.1 p.2 = some y := h
end
end Su
end
section
namespace Su
open Go Fly
set_option linter.unusedVariables false
noncomputable section
def rRad_l1 : (Int × (Int × (Bool × (Int × ((List Int) × ((List Int) × (Int × Unit))))))) → Option ((Int × (Int × (Bool × (Int × ((List Int) × ((List Int) × (Int × Unit))))))) ⊕ (Int × (Int × (Bool × (Int × ((List Int) × ((List Int) × (Int × Unit)))))))) := fun p1 => (bif (decide ((p1.2.1 < (((List.length p1.2.2.2.2.2.1) : Nat) : Int)))) then
  ((Su.idx p1.2.2.2.2.2.1 p1.2.1)).bind fun x2 =>
  some (.inl ((Su.addI p1.1 (Su.absI x2) 1), ((Go.IntKind.wrap .i64 (p1.2.1 + 1)), (p1.2.2.1, (p1.2.2.2.1, (p1.2.2.2.2.1, (p1.2.2.2.2.2.1, (p1.2.2.2.2.2.2.1, ()))))))))
 else
  some (.inr (p1.1, (p1.2.1, (p1.2.2.1, (p1.2.2.2.1, (p1.2.2.2.2.1, (p1.2.2.2.2.2.1, (p1.2.2.2.2.2.2.1, ())))))))))
def rRad  (fu : Nat) (a : (Bool × (Int × ((List Int) × ((List Int) × Int))))) : Option Int :=
  ((Su.rIn (a.1, (a.2.1, (a.2.2.1, (a.2.2.2.1, a.2.2.2.2)))))).bind fun x0 =>
  (bif x0.1 then
  some 9218868437227405312
 else
  (itP fu (rRad_l1) ((0 : Int), ((0 : Int), (x0.1, (x0.2.1, (x0.2.2.1, (x0.2.2.2.1, (x0.2.2.2.2, ())))))))).bind fun x3 =>
  some (Su.addI x3.1 x3.2.2.2.2.2.2.1 1))
set_option linter.unusedSimpArgs false
theorem rIn_of (a : Fm) : rIn (ofF a) = some (ofF (bif mayF a then a else badF)) := by
  unfold rIn
  refine obs (rMay_of a) ?_
  cases mayF a <;> rfl
def sumB : List Tm → Int → Int
  | [], s => s
  | t :: l, s => sumB l (addI s (absI t.c) 1)
theorem abs_fin {c : Int} (h : fI c = true) : absA c = absI c := by
  have hf := fI_iff.1 h
  unfold absA absI absF
  rw [nanK_not.2 (by omega)]; rfl
theorem sum_AB : ∀ {l : List Tm} {s : Int}, Cle s → (∀ t ∈ l, fI t.c = true) → sumA l s = sumB l s ∧ Cle (sumB l s)
  | [], _, h, _ => ⟨rfl, h⟩
  | t :: l, s, h, hl => by
    obtain ⟨h1, h2⟩ := cle_up h (wd_abs t.c)
    unfold sumA sumB
    rw [abs_fin (hl t (List.mem_cons_self ..)), h1]
    exact sum_AB h2 fun u hu => hl u (List.mem_cons_of_mem _ hu)
theorem rrad_loop (b : Bool) (m e : Int) (l : List Tm) (hl : l.length ≤ 500000000000) : ∀ (rest A : List Tm) (s : Int), A ++ rest = l →
    ∃ n, itP n rRad_l1 (s, ((A.length : Int), (b, (m, (l.map Tm.id, (l.map Tm.c, (e, ()))))))) = some (sumB rest s, ((l.length : Int), (b, (m, (l.map Tm.id, (l.map Tm.c, (e, ())))))))
  | [], A, s, hA => by
    rw [List.append_nil] at hA; subst hA
    refine ⟨1, ?_⟩
    rw [itP_s]
    simp only [rRad_l1, List.length_map]
    rw [decide_eq_false (by omega), cond_false]; rfl
  | t :: rest, A, s, hA => by
    have hNl : A.length + (rest.length + 1) = l.length := by rw [← hA]; simp
    have hc : idx (l.map Tm.c) (A.length : Int) = some t.c := by rw [← hA]; exact idx_mid Tm.c A t rest
    have hlt : decide ((A.length : Int) < ((l.length : Nat) : Int)) = true := decide_eq_true (by omega)
    have hw : IntKind.i64.wrap ((A.length : Int) + 1) = (((A ++ [t]).length : Nat) : Int) := by rw [w64 (by omega) (by omega)]; simp
    obtain ⟨n, h⟩ := rrad_loop b m e l hl rest (A ++ [t]) (addI s (absI t.c) 1) (by rw [← hA]; simp)
    refine ⟨n + 1, ?_⟩
    rw [itP_s]
    simp only [rRad_l1, List.length_map, hc, hlt, cond_true, Option.bind_some, hw]
    exact h
def rRad_s (x : Rf) : Option Int := bif okR x then some (radF (toF x)) else none
theorem rad_ok {a : Fm} (h : Tells a) : radF a = addI (sumB a.2.2.1 0) a.2.2.2 1 := by
  obtain ⟨h1, h2⟩ := sum_AB (l := a.2.2.1) cle_0 h.ft
  rw [radF_eq, okF_tells h, cond_true, h1, (cle_up h2 h.we).1]
theorem rRad_ok (x : Rf) (y : Int) (hg : (d1 cRf).good x) (h : rRad_s x = some y) : ∃ n, rRad n x = some y := by
  obtain ⟨hx, h2⟩ := bif_some h
  have := soi h2; subst this
  revert hg
  refine onR (P := fun x => (d1 cRf).good x → ∃ n, rRad n x = some (radF (toF x))) (fun a hl hg => ?_) hx
  have hw := wf_good hg
  rw [to_of]
  obtain ⟨b, m, l, e⟩ := a
  have hl : l.length ≤ 500000000000 := hl
  unfold rRad
  rcases okF_cases (b, (m, (l, e))) with ⟨h1, h2⟩ | ⟨h1, h2, h3, h4⟩ | ⟨h1, h2, h3⟩
  · refine ⟨0, obs (rIn_of (b, (m, (l, e)))) ?_⟩
    rw [radF_eq, h1, h2]; rfl
  · have h3 : b = true := h3
    subst h3
    refine ⟨0, obs (rIn_of (true, (m, (l, e)))) ?_⟩
    rw [radF_eq, h1, h2]; rfl
  · have h3 : b = false := h3
    have ht := tells (a := (b, (m, (l, e)))) h3 h2 hw.1 hw.2.1 hw.2.2
    subst h3
    obtain ⟨n, q⟩ := rrad_loop false m e l hl l [] 0 rfl
    refine ⟨n, obs (rIn_of (false, (m, (l, e)))) ?_⟩
    rw [rad_ok ht, h2, cond_true, show (ofF (false, (m, (l, e)))).1 = false from rfl, cond_false]
    exact obs q rfl
end
end Su
end
section
namespace Su
open Go Fly
set_option linter.unusedVariables false
noncomputable section
set_option linter.unusedSimpArgs false
abbrev MulS := List Tm × (List Tm × (Nat × (Bool × (Int × (List Tm × (Int × (Bool × (Int × (List Tm × (Int × (Int × (Bool × (List T × Unit)))))))))))))
def mulQ (s : MulS) (l m : List Tm) (id p q e : Int) (ok : Bool) : Option (MulS ⊕ MulS) :=
  bif (true && Nat.beq s.2.2.1 s.2.2.2.2.2.2.2.2.2.2.2.2.2.1.length) && Nat.ble (s.2.2.2.2.2.2.2.2.2.2.2.2.2.1.length + [T.agg [T.s (.int .i64 id), T.s (.int .u64 (addI p q 0))]].length) 549755813888 then
    some (.inl (l, (m, ((s.2.2.2.2.2.2.2.2.2.2.2.2.2.1 ++ [T.agg [T.s (.int .i64 id), T.s (.int .u64 (addI p q 0))]]).length, (s.2.2.2.1, (s.2.2.2.2.1, (s.2.2.2.2.2.1, (s.2.2.2.2.2.2.1, (s.2.2.2.2.2.2.2.1, (s.2.2.2.2.2.2.2.2.1, (s.2.2.2.2.2.2.2.2.2.1, (s.2.2.2.2.2.2.2.2.2.2.1, (upI [e, slkA p q], (ok, (s.2.2.2.2.2.2.2.2.2.2.2.2.2.1 ++ [T.agg [T.s (.int .i64 id), T.s (.int .u64 (addI p q 0))]], ())))))))))))))))
  else none
def mulOne (s : MulS) (l m : List Tm) (id mid x : Int) (c : Bool) : Option (MulS ⊕ MulS) :=
  bif decide (x = 0) then mulQ s l m id 0 0 s.2.2.2.2.2.2.2.2.2.2.2.1 s.2.2.2.2.2.2.2.2.2.2.2.2.1
  else bif s.2.2.2.2.2.2.2.2.2.2.2.2.1 then mulQ s l m id (bif c then mulI mid x 0 else 0) (bif c then 0 else mulI mid x 0) (upI [s.2.2.2.2.2.2.2.2.2.2.2.1, slkM mid x]) (fI (mulI mid x 0))
  else mulQ s l m id (bif c then mulI mid x 0 else 0) (bif c then 0 else mulI mid x 0) (upI [s.2.2.2.2.2.2.2.2.2.2.2.1, slkM mid x]) false
def mulBoth (s : MulS) (l m : List Tm) (id x y : Int) : Option (MulS ⊕ MulS) :=
  bif decide (y = 0) then mulOne s l m id s.2.2.2.2.2.2.2.2.1 x false
  else bif s.2.2.2.2.2.2.2.2.2.2.2.2.1 then
    (bif decide (x = 0) then mulQ s l m id (mulI s.2.2.2.2.1 y 0) 0 (upI [s.2.2.2.2.2.2.2.2.2.2.2.1, slkM s.2.2.2.2.1 y]) (fI (mulI s.2.2.2.2.1 y 0))
     else bif fI (mulI s.2.2.2.2.1 y 0) then mulQ s l m id (mulI s.2.2.2.2.1 y 0) (mulI s.2.2.2.2.2.2.2.2.1 x 0) (upI [upI [s.2.2.2.2.2.2.2.2.2.2.2.1, slkM s.2.2.2.2.1 y], slkM s.2.2.2.2.2.2.2.2.1 x]) (fI (mulI s.2.2.2.2.2.2.2.2.1 x 0))
     else mulQ s l m id (mulI s.2.2.2.2.1 y 0) (mulI s.2.2.2.2.2.2.2.2.1 x 0) (upI [upI [s.2.2.2.2.2.2.2.2.2.2.2.1, slkM s.2.2.2.2.1 y], slkM s.2.2.2.2.2.2.2.2.1 x]) false)
  else
    (bif decide (x = 0) then mulQ s l m id (mulI s.2.2.2.2.1 y 0) 0 (upI [s.2.2.2.2.2.2.2.2.2.2.2.1, slkM s.2.2.2.2.1 y]) false
     else mulQ s l m id (mulI s.2.2.2.2.1 y 0) (mulI s.2.2.2.2.2.2.2.2.1 x 0) (upI [upI [s.2.2.2.2.2.2.2.2.2.2.2.1, slkM s.2.2.2.2.1 y], slkM s.2.2.2.2.2.2.2.2.1 x]) false)
def tl1 (l : List Tm) (r : List Tm → Option (MulS ⊕ MulS)) : Option (MulS ⊕ MulS) :=
  bif true && ((true && decide (1 ≤ ((l.length : Nat) : Int))) && decide (((l.length : Nat) : Int) ≤ ((l.length : Nat) : Int))) then r (List.take (Int.toNat (((l.length : Nat) : Int) - 1)) (List.drop 1 l)) else none
def mulX (s : MulS) : Option (MulS ⊕ MulS) := (idx s.1 0).bind fun x => (idx s.1 0).bind fun y => tl1 s.1 fun l => mulOne s l s.2.1 (Tm.id x) s.2.2.2.2.2.2.2.2.1 (Tm.c y) false
def mulY (s : MulS) : Option (MulS ⊕ MulS) := (idx s.2.1 0).bind fun x => (idx s.2.1 0).bind fun y => tl1 s.2.1 fun m => mulOne s s.1 m (Tm.id x) s.2.2.2.2.1 (Tm.c y) true
def mulYB (s : MulS) : Option (MulS ⊕ MulS) :=
  bif decide (((s.1.length : Nat) : Int) = 0) then mulY s
  else (idx s.2.1 0).bind fun x => (idx s.1 0).bind fun y => bif decide (Tm.id x < Tm.id y) then mulY s
    else (idx s.1 0).bind fun x => (idx s.1 0).bind fun y => (idx s.2.1 0).bind fun z => tl1 s.1 fun l => tl1 s.2.1 fun m => mulBoth s l m (Tm.id x) (Tm.c y) (Tm.c z)
def mulGo (s : MulS) : Option (MulS ⊕ MulS) :=
  bif decide (((s.2.1.length : Nat) : Int) = 0) then mulX s
  else bif decide (0 < ((s.1.length : Nat) : Int)) then (idx s.1 0).bind fun x => (idx s.2.1 0).bind fun y => bif decide (Tm.id x < Tm.id y) then mulX s else mulYB s
  else mulYB s
def aMulF_l1 : MulS → Option (MulS ⊕ MulS) := fun s =>
  bif decide (0 < ((s.1.length : Nat) : Int)) then mulGo s else bif decide (0 < ((s.2.1.length : Nat) : Int)) then mulGo s
  else some (.inr (s.1, (s.2.1, (s.2.2.1, (s.2.2.2.1, (s.2.2.2.2.1, (s.2.2.2.2.2.1, (s.2.2.2.2.2.2.1, (s.2.2.2.2.2.2.2.1, (s.2.2.2.2.2.2.2.2.1, (s.2.2.2.2.2.2.2.2.2.1, (s.2.2.2.2.2.2.2.2.2.2.1, (s.2.2.2.2.2.2.2.2.2.2.2.1, (s.2.2.2.2.2.2.2.2.2.2.2.2.1, (s.2.2.2.2.2.2.2.2.2.2.2.2.2.1, ())))))))))))))))
def mulE (a b : Fm) (r s : Int) : Int := upI [slkM a.2.1 b.2.1, mulI (absA a.2.1) b.2.2.2 1, mulI (absA b.2.1) a.2.2.2 1, mulI r s 1]
def mulRun (fu : Nat) (a b : Fm) (r s : Int) (ok : Bool) : Option Fm :=
  (itP fu aMulF_l1 (a.2.2.1, (b.2.2.1, (0, (a.1, (a.2.1, (a.2.2.1, (a.2.2.2, (b.1, (b.2.1, (b.2.2.1, (b.2.2.2, (mulE a b r s, (ok, ([], ()))))))))))))))).bind fun x =>
  bif !x.2.2.2.2.2.2.2.2.2.2.2.2.1 then some (true, ((0 : Int), ([], (0 : Int))))
  else bif true && Nat.beq x.2.2.1 x.2.2.2.2.2.2.2.2.2.2.2.2.2.1.length then
    ((((((unTms x.2.2.2.2.2.2.2.2.2.2.2.2.2.1).bind fun y => some (y, x.2.2.2.2.2.2.2.2.2.2.2.1)).bind fun y => some (mulI x.2.2.2.2.1 x.2.2.2.2.2.2.2.2.1 0, y)).bind fun y => some (false, y)).bind fun y => some (doneF y)).bind fun y => some (y.1, (y.2.1, (y.2.2.1, y.2.2.2))))
  else none
def aMulF (fu : Nat) (a b : Fm) : Option Fm :=
  bif List.any [(a.1, (a.2.1, (a.2.2.1, a.2.2.2))), (b.1, (b.2.1, (b.2.2.1, b.2.2.2)))] (fun z0 => (z0.1 || (!(Su.mayF z0)))) then some (true, ((0 : Int), ([], (0 : Int))))
  else (aRest_s (a.1, (a.2.1, (a.2.2.1, a.2.2.2)))).bind fun r => (aRest_s (b.1, (b.2.1, (b.2.2.1, b.2.2.2)))).bind fun s =>
    bif finK (bK (Int.toNat r)) then mulRun fu a b r s (finK (bK (Int.toNat s))) else mulRun fu a b r s false
def mulD (ma mb e x y : Int) : Int × Int :=
  (addI (bif decide (y = 0) then 0 else mulI ma y 0) (bif decide (x = 0) then 0 else mulI mb x 0) 0,
   upI [bif decide (x = 0) then (bif decide (y = 0) then e else upI [e, slkM ma y]) else upI [bif decide (y = 0) then e else upI [e, slkM ma y], slkM mb x],
     slkA (bif decide (y = 0) then 0 else mulI ma y 0) (bif decide (x = 0) then 0 else mulI mb x 0)])
def okD (ma mb x y : Int) : Bool := fI (bif decide (y = 0) then 0 else mulI ma y 0) && fI (bif decide (x = 0) then 0 else mulI mb x 0)
def okE (ma mb e x y : Int) : Int × Int := (bif okD ma mb x y then 0 else 1, e)
def okMm (ma mb : Int) (n : Nat) (l m : List Tm) : Bool := (mergeN (okE ma mb) n l m 0).1.all fun t => decide (t.c = 0)
theorem mulQ_eq {l0 m0 l m : List Tm} {ba bb : Bool} {ma mb ea eb e0 : Int} {ta tb : List Tm} {ok0 : Bool} {A : List Tm} (hA : A.length + 1 ≤ 549755813888) (id p q e : Int) (ok : Bool) :
    mulQ (l0, (m0, (A.length, (ba, (ma, (ta, (ea, (bb, (mb, (tb, (eb, (e0, (ok0, (A.map vT, ())))))))))))))) l m id p q e ok =
      some (.inl (l, (m, ((A ++ [(⟨id, addI p q 0⟩ : Tm)]).length, (ba, (ma, (ta, (ea, (bb, (mb, (tb, (eb, (upI [e, slkA p q], (ok, ((A ++ [(⟨id, addI p q 0⟩ : Tm)]).map vT, ()))))))))))))))) := by
  have hb : Nat.ble (A.length + 1) 549755813888 = true := Nat.ble_eq_true_of_le hA
  simp only [mulQ, List.length_map, beq_self, Bool.and_true, Bool.true_and, List.length_singleton, hb, cond_true, mapS, lenS]
theorem mulOne_x {l0 m0 l m : List Tm} {ba bb : Bool} {ma mb ea eb e : Int} {ta tb : List Tm} {ok : Bool} {A : List Tm} (hA : A.length + 1 ≤ 549755813888) (id x : Int) :
    mulOne (l0, (m0, (A.length, (ba, (ma, (ta, (ea, (bb, (mb, (tb, (eb, (e, (ok, (A.map vT, ())))))))))))))) l m id mb x false =
      some (.inl (l, (m, ((A ++ [(⟨id, (mulD ma mb e x 0).1⟩ : Tm)]).length, (ba, (ma, (ta, (ea, (bb, (mb, (tb, (eb, ((mulD ma mb e x 0).2, (ok && okD ma mb x 0, ((A ++ [(⟨id, (mulD ma mb e x 0).1⟩ : Tm)]).map vT, ()))))))))))))))) := by
  unfold mulOne
  simp only [mulQ_eq hA, mulD, okD, decide_true, cond_true, cond_false, fI_0, Bool.true_and]
  cases decide (x = 0) <;> cases ok <;> simp only [cond_true, cond_false, fI_0, Bool.true_and, Bool.false_and, Bool.and_self]
theorem mulOne_y {l0 m0 l m : List Tm} {ba bb : Bool} {ma mb ea eb e : Int} {ta tb : List Tm} {ok : Bool} {A : List Tm} (hA : A.length + 1 ≤ 549755813888) (id y : Int) :
    mulOne (l0, (m0, (A.length, (ba, (ma, (ta, (ea, (bb, (mb, (tb, (eb, (e, (ok, (A.map vT, ())))))))))))))) l m id ma y true =
      some (.inl (l, (m, ((A ++ [(⟨id, (mulD ma mb e 0 y).1⟩ : Tm)]).length, (ba, (ma, (ta, (ea, (bb, (mb, (tb, (eb, ((mulD ma mb e 0 y).2, (ok && okD ma mb 0 y, ((A ++ [(⟨id, (mulD ma mb e 0 y).1⟩ : Tm)]).map vT, ()))))))))))))))) := by
  unfold mulOne
  simp only [mulQ_eq hA, mulD, okD, decide_true, cond_true, cond_false, fI_0, Bool.and_true]
  cases decide (y = 0) <;> cases ok <;> simp only [cond_true, cond_false, fI_0, Bool.true_and, Bool.false_and, Bool.and_self, Bool.and_true]
theorem mulBoth_eq {l0 m0 l m : List Tm} {ba bb : Bool} {ma mb ea eb e : Int} {ta tb : List Tm} {ok : Bool} {A : List Tm} (hA : A.length + 1 ≤ 549755813888) (id x y : Int) :
    mulBoth (l0, (m0, (A.length, (ba, (ma, (ta, (ea, (bb, (mb, (tb, (eb, (e, (ok, (A.map vT, ())))))))))))))) l m id x y =
      some (.inl (l, (m, ((A ++ [(⟨id, (mulD ma mb e x y).1⟩ : Tm)]).length, (ba, (ma, (ta, (ea, (bb, (mb, (tb, (eb, ((mulD ma mb e x y).2, (ok && okD ma mb x y, ((A ++ [(⟨id, (mulD ma mb e x y).1⟩ : Tm)]).map vT, ()))))))))))))))) := by
  unfold mulBoth mulOne
  simp only [mulQ_eq hA, mulD, okD]
  cases decide (y = 0) <;> cases decide (x = 0) <;> cases ok <;> simp only [cond_true, cond_false, fI_0, Bool.true_and, Bool.false_and, Bool.and_self, Bool.and_true] <;>
    (cases fI (mulI ma y 0) <;> simp only [cond_true, cond_false, Bool.true_and, Bool.false_and])
theorem tl1_eq {t : Tm} {l : List Tm} {r : List Tm → Option (MulS ⊕ MulS)} : tl1 (t :: l) r = r l := by
  unfold tl1
  rw [List.length_cons, hge1, hle, takeL]
  rfl
theorem okMm_step {ma mb : Int} {n : Nat} {l m l' m' : List Tm} {id x y : Int} (h : ∀ (f : Int → Int → Int → Int × Int) (e : Int), mergeN f (n + 1) l m e = stepM id (f e x y) (mergeN f n l' m')) : okMm ma mb (n + 1) l m = (okD ma mb x y && okMm ma mb n l' m') := by
  unfold okMm
  rw [h]
  simp only [stepM, okE, List.all_cons]
  cases okD ma mb x y <;> rfl
theorem mul_loop {ba bb : Bool} {ma mb ea eb : Int} {ta tb : List Tm} : ∀ (n : Nat) (l m : List Tm) (e : Int) (ok : Bool) (A : List Tm), l.length + m.length ≤ n → A.length + n ≤ 549755813888 →
    ∃ fu, itP fu aMulF_l1 (l, (m, (A.length, (ba, (ma, (ta, (ea, (bb, (mb, (tb, (eb, (e, (ok, (A.map vT, ())))))))))))))) = some ([], ([], ((A ++ (mergeN (mulD ma mb) n l m e).1).length, (ba, (ma, (ta, (ea, (bb, (mb, (tb, (eb, ((mergeN (mulD ma mb) n l m e).2, (ok && okMm ma mb n l m, ((A ++ (mergeN (mulD ma mb) n l m e).1).map vT, ()))))))))))))))
  | 0, l, m, e, ok, A, h, hA => by
    have h1 : l = [] := List.length_eq_zero_iff.1 (by omega)
    have h2 : m = [] := List.length_eq_zero_iff.1 (by omega)
    subst h1 h2
    refine ⟨1, ?_⟩
    rw [itP_s]
    simp only [aMulF_l1, List.length_nil, hp0, cond_false, Option.bind_some, mergeN, List.append_nil, okMm, List.all_nil, Bool.and_true]
  | n + 1, l, m, e, ok, A, h, hA => by
    have go : ∀ (l' m' : List Tm) (id x y : Int), l'.length + m'.length ≤ n → (∀ (f : Int → Int → Int → Int × Int) (e : Int), mergeN f (n + 1) l m e = stepM id (f e x y) (mergeN f n l' m')) →
        aMulF_l1 (l, (m, (A.length, (ba, (ma, (ta, (ea, (bb, (mb, (tb, (eb, (e, (ok, (A.map vT, ())))))))))))))) = some (.inl (l', (m', ((A ++ [(⟨id, (mulD ma mb e x y).1⟩ : Tm)]).length, (ba, (ma, (ta, (ea, (bb, (mb, (tb, (eb, ((mulD ma mb e x y).2, (ok && okD ma mb x y, ((A ++ [(⟨id, (mulD ma mb e x y).1⟩ : Tm)]).map vT, ()))))))))))))))) →
        ∃ fu, itP fu aMulF_l1 (l, (m, (A.length, (ba, (ma, (ta, (ea, (bb, (mb, (tb, (eb, (e, (ok, (A.map vT, ())))))))))))))) = some ([], ([], ((A ++ (mergeN (mulD ma mb) (n + 1) l m e).1).length, (ba, (ma, (ta, (ea, (bb, (mb, (tb, (eb, ((mergeN (mulD ma mb) (n + 1) l m e).2, (ok && okMm ma mb (n + 1) l m, ((A ++ (mergeN (mulD ma mb) (n + 1) l m e).1).map vT, ())))))))))))))) := by
      intro l' m' id x y hl' hm hs
      obtain ⟨fu, q⟩ := mul_loop n l' m' (mulD ma mb e x y).2 (ok && okD ma mb x y) (A ++ [⟨id, (mulD ma mb e x y).1⟩]) hl' (by simp; omega)
      refine ⟨fu + 1, ?_⟩
      rw [itP_s, hs, hm, okMm_step hm]
      simp only [Option.bind_some, stepM]
      rw [q]
      simp only [List.append_assoc, List.singleton_append, Bool.and_assoc]
    have hA1 : A.length + 1 ≤ 549755813888 := by omega
    match l, m, h with
    | [], [], h =>
      refine ⟨1, ?_⟩
      rw [itP_s]
      simp only [aMulF_l1, List.length_nil, hp0, cond_false, Option.bind_some, mergeN, List.append_nil, okMm, List.all_nil, Bool.and_true]
    | x :: l, [], h =>
      simp only [List.length_cons, List.length_nil] at h
      refine go l [] x.id x.c 0 (by simp; omega) (fun f e => rfl) ?_
      simp only [aMulF_l1, mulGo, mulX, List.length_cons, List.length_nil, hpos, hz0, cond_true, idx0, Option.bind_some]
      rw [tl1_eq, mulOne_x hA1]
    | [], y :: m, h =>
      simp only [List.length_cons, List.length_nil] at h
      refine go [] m y.id 0 y.c (by simp; omega) (fun f e => rfl) ?_
      simp only [aMulF_l1, mulGo, mulYB, mulY, List.length_cons, List.length_nil, hpos, hz0, hnz, hp0, cond_true, cond_false, idx0, Option.bind_some]
      rw [tl1_eq, mulOne_y hA1]
    | x :: l, y :: m, h =>
      simp only [List.length_cons] at h
      cases h1 : decide (x.id < y.id) with
      | true =>
        refine go l (y :: m) x.id x.c 0 (by simp; omega) (fun f e => by simp only [mergeN, h1, cond_true]) ?_
        simp only [aMulF_l1, mulGo, mulX, List.length_cons, hpos, hnz, cond_true, cond_false, idx0, Option.bind_some, h1]
        rw [tl1_eq, mulOne_x hA1]
      | false =>
        cases h2 : decide (y.id < x.id) with
        | true =>
          refine go (x :: l) m y.id 0 y.c (by simp; omega) (fun f e => by simp only [mergeN, h1, h2, cond_true, cond_false]) ?_
          simp only [aMulF_l1, mulGo, mulYB, mulY, List.length_cons, hpos, hnz, cond_true, cond_false, idx0, Option.bind_some, h1, h2]
          rw [tl1_eq, mulOne_y hA1]
        | false =>
          refine go l m x.id x.c y.c (by omega) (fun f e => by simp only [mergeN, h1, h2, cond_false]) ?_
          simp only [aMulF_l1, mulGo, mulYB, List.length_cons, hpos, hnz, cond_true, cond_false, idx0, Option.bind_some, h1, h2]
          rw [tl1_eq, tl1_eq, mulBoth_eq hA1]
def mulFm' (a b : Fm) : Fm :=
  bif okF a && okF b then
    (bif (fI (restF a) && fI (restF b)) && okMm a.2.1 b.2.1 (a.2.2.1.length + b.2.2.1.length) a.2.2.1 b.2.2.1 then
      doneF (false, (mulI a.2.1 b.2.1 0, (mergeN (mulD a.2.1 b.2.1) (a.2.2.1.length + b.2.2.1.length) a.2.2.1 b.2.2.1 (mulE a b (restF a) (restF b)))))
     else badF)
  else badF
def mulFmL : {f : Fm → Fm → Fm // ∀ a b, f a b = mulFm' a b} := Classical.choice ⟨⟨_, fun _ _ => rfl⟩⟩
def mulFm (a b : Fm) : Fm := mulFmL.1 a b
theorem mulFm_eq (a b : Fm) : mulFm a b = mulFm' a b := mulFmL.2 a b
def aMulF_s (p : Fm × Fm) : Option Fm := bif Nat.ble (p.1.2.2.1.length + p.2.2.2.1.length) 549755813888 then some (mulFm p.1 p.2) else none
theorem aMulF_ok (p : Fm × Fm) (y : Fm) (hg : (dc cFrm (d1 cFrm)).good p) (h : aMulF_s p = some y) : ∃ n, aMulF n p.1 p.2 = some y := by
  obtain ⟨a, b⟩ := p
  obtain ⟨h1, h2⟩ := bif_some h
  have := soi h2; subst this
  have hl : a.2.2.1.length + b.2.2.1.length ≤ 549755813888 := Nat.le_of_ble_eq_true h1
  have ha : List.any [(a.1, (a.2.1, (a.2.2.1, a.2.2.2))), (b.1, (b.2.1, (b.2.2.1, b.2.2.2)))] (fun z0 => (z0.1 || (!(Su.mayF z0)))) = !(okF a && okF b) := by simp [okF]
  rw [mulFm_eq]
  unfold aMulF mulFm'
  simp only []
  rw [ha]
  cases okF a && okF b with
  | false => exact ⟨0, rfl⟩
  | true =>
    rw [Bool.not_true]
    change ∃ n, (aRest_s _).bind _ = some (bif _ then _ else _)
    have ra : aRest_s (a.1, (a.2.1, (a.2.2.1, a.2.2.2))) = some (restF a) := by
      unfold aRest_s lenOK
      simp only []
      rw [Nat.ble_eq_true_of_le (by omega), cond_true]
    have rb : aRest_s (b.1, (b.2.1, (b.2.2.1, b.2.2.2))) = some (restF b) := by
      unfold aRest_s lenOK
      simp only []
      rw [Nat.ble_eq_true_of_le (by omega), cond_true]
    have hf : ∀ f : Int, finK (bK (Int.toNat f)) = fI f := fun _ => rfl
    have run : ∀ ok : Bool, ∃ n, mulRun n a b (restF a) (restF b) ok = some (bif ok && okMm a.2.1 b.2.1 (a.2.2.1.length + b.2.2.1.length) a.2.2.1 b.2.2.1 then
        doneF (false, (mulI a.2.1 b.2.1 0, (mergeN (mulD a.2.1 b.2.1) (a.2.2.1.length + b.2.2.1.length) a.2.2.1 b.2.2.1 (mulE a b (restF a) (restF b))))) else badF) := fun ok => by
      obtain ⟨n, q⟩ := mul_loop (ba := a.1) (bb := b.1) (ma := a.2.1) (mb := b.2.1) (ea := a.2.2.2) (eb := b.2.2.2) (ta := a.2.2.1) (tb := b.2.2.1) _ a.2.2.1 b.2.2.1 (mulE a b (restF a) (restF b)) ok [] (Nat.le_refl _) (by simpa using hl)
      refine ⟨n, ?_⟩
      unfold mulRun
      refine obs q ?_
      simp only [List.nil_append]
      cases ok && okMm a.2.1 b.2.1 (a.2.2.1.length + b.2.2.1.length) a.2.2.1 b.2.2.1 with
      | false => rfl
      | true =>
        simp only [Bool.not_true, cond_false, List.length_map, beq_self, Bool.and_true, cond_true]
        exact obs (obs (obs (obs (obs (unTms_map _) rfl) rfl) rfl) rfl) rfl
    cases hr : fI (restF a) with
    | true =>
      obtain ⟨n, q⟩ := run (fI (restF b))
      refine ⟨n, obs ra (obs rb ?_)⟩
      rw [hf, hf, hr, cond_true, q, Bool.true_and]; rfl
    | false =>
      obtain ⟨n, q⟩ := run false
      refine ⟨n, obs ra (obs rb ?_)⟩
      rw [hf, hr, cond_false, q, Bool.false_and]; rfl
end
end Su
end
