/-
  What functions of the program compute, in plain Lean, and that the evaluator finds it.
-/
import Derived.Test.YtnegfdebjikfiaaGreatSuSd
import Derived.Test.YtnegfdebjikfiaaGreatNC23
set_option maxRecDepth 10000
section
namespace Su
open Go Fly
set_option linter.unusedVariables false
noncomputable section
set_option linter.unusedSimpArgs false
theorem wd_rad {a : Fm} (h : Wf a) : Wd64 (radF a) := by
  rw [radF_eq]
  cases okF a with
  | false => exact ⟨9218868437227405312, rfl, by omega⟩
  | true =>
    rw [cond_true]
    have hup : ∀ {x y : Int}, Wd64 x → Wd64 y → Wd64 (upI [x, y]) := fun wx wy => wd_add (wd_add wd_0 wx 1) wy 1
    have hs : ∀ (l : List Tm) (s : Int), Wd64 s → (∀ t ∈ l, Wd64 t.c) → Wd64 (sumA l s) := by
      intro l
      induction l with
      | nil => intro s hs _; exact hs
      | cons t l ih =>
        intro s hs hl
        unfold sumA
        refine ih _ (hup hs ?_) fun u hu => hl u (List.mem_cons_of_mem _ hu)
        obtain ⟨C, hC, hC2⟩ := hl t (List.mem_cons_self ..)
        refine ⟨absF t.c.toNat, rfl, ?_⟩
        unfold absF
        have := bK_lt t.c.toNat
        rw [hC, Int.toNat_natCast] at *
        cases nanK (bK C) <;> simp only [cond_true, cond_false] <;> omega
    exact hup (hs _ _ wd_0 h.2.2) h.2.1
end
end Su
end
section
namespace Su
open Go Fly
set_option linter.unusedVariables false
noncomputable section
abbrev aFrom_l1_S := ((List Su.T) × (Int × (Int × (Bool × (Int × (Int × (Bool × (Int × (Int × Unit)))))))))
def aFrom_l1 : aFrom_l1_S → Option (aFrom_l1_S ⊕ aFrom_l1_S) := fun p0 => (bif (decide ((p0.2.2.1 < p0.2.1))) then
  ((Su.idx p0.1 p0.2.2.1)).bind fun x1 =>
  (((Su.T.cells x1))[0]?).bind fun x2 =>
  ((Su.asB (.t x2))).bind fun x3 =>
  (((Su.T.cells x1))[1]?).bind fun x4 =>
  ((Su.asI .u64 (.t x4))).bind fun x5 =>
  (((Su.T.cells x1))[2]?).bind fun x6 =>
  ((Su.asI .u64 (.t x6))).bind fun x7 =>
  (bif (Su.normS (x3, (x5, x7))).1 then
  some (.inl (p0.1, (p0.2.1, ((Go.IntKind.wrap .i64 (p0.2.2.1 + 1)), (p0.2.2.2.1, (p0.2.2.2.2.1, (p0.2.2.2.2.2.1, (p0.2.2.2.2.2.2.1, (p0.2.2.2.2.2.2.2.1, (p0.2.2.2.2.2.2.2.2.1, ()))))))))))
 else
  (bif p0.2.2.2.2.2.2.1 then
  some (.inl (p0.1, (p0.2.1, ((Go.IntKind.wrap .i64 (p0.2.2.1 + 1)), (p0.2.2.2.1, (p0.2.2.2.2.1, (p0.2.2.2.2.2.1, ((Su.normS (x3, (x5, x7))).1, ((Su.normS (x3, (x5, x7))).2.1, ((Su.normS (x3, (x5, x7))).2.2, ()))))))))))
 else
  some (.inl (p0.1, (p0.2.1, ((Go.IntKind.wrap .i64 (p0.2.2.1 + 1)), (p0.2.2.2.1, (p0.2.2.2.2.1, (p0.2.2.2.2.2.1, ((Su.normS (false, ((((Su.minN (Int.toNat p0.2.2.2.2.2.2.2.1) (Int.toNat (Su.normS (x3, (x5, x7))).2.1)) : Nat) : Int), (((Su.maxN (Int.toNat p0.2.2.2.2.2.2.2.2.1) (Int.toNat (Su.normS (x3, (x5, x7))).2.2)) : Nat) : Int)))).1, ((Su.normS (false, ((((Su.minN (Int.toNat p0.2.2.2.2.2.2.2.1) (Int.toNat (Su.normS (x3, (x5, x7))).2.1)) : Nat) : Int), (((Su.maxN (Int.toNat p0.2.2.2.2.2.2.2.2.1) (Int.toNat (Su.normS (x3, (x5, x7))).2.2)) : Nat) : Int)))).2.1, ((Su.normS (false, ((((Su.minN (Int.toNat p0.2.2.2.2.2.2.2.1) (Int.toNat (Su.normS (x3, (x5, x7))).2.1)) : Nat) : Int), (((Su.maxN (Int.toNat p0.2.2.2.2.2.2.2.2.1) (Int.toNat (Su.normS (x3, (x5, x7))).2.2)) : Nat) : Int)))).2.2, ()))))))))))))
 else
  some (.inr (p0.1, (p0.2.1, (p0.2.2.1, (p0.2.2.2.1, (p0.2.2.2.2.1, (p0.2.2.2.2.2.1, (p0.2.2.2.2.2.2.1, (p0.2.2.2.2.2.2.2.1, (p0.2.2.2.2.2.2.2.2.1, ())))))))))))
def aFrom  (fu : Nat) (s : (Bool × (Int × Int))) (id : Int) : Option (Bool × (Int × ((List Su.Tm) × Int))) :=
  (itP fu (aFrom_l1) ([(T.agg [(T.s (.bool s.1)), (T.s (.int .u64 s.2.1)), (T.s (.int .u64 s.2.2))])], ((((List.length [(T.agg [(T.s (.bool s.1)), (T.s (.int .u64 s.2.1)), (T.s (.int .u64 s.2.2))])]) : Nat) : Int), ((0 : Int), (false, ((0 : Int), ((0 : Int), (true, ((0 : Int), ((0 : Int), ())))))))))).bind fun x8 =>
  (bif x8.2.2.2.2.2.2.1 then
  some (true, ((0 : Int), ([], (0 : Int))))
 else
  (bif (!(Su.finK (Su.bK (Int.toNat x8.2.2.2.2.2.2.2.1)))) then
  some (true, ((0 : Int), ([], (0 : Int))))
 else
  (bif (!(Su.finK (Su.bK (Int.toNat x8.2.2.2.2.2.2.2.2.1)))) then
  some (true, ((0 : Int), ([], (0 : Int))))
 else
  (bif (decide ((id < 0))) then
  some ((Su.doneF (false, ((Su.midI x8.2.2.2.2.2.2.2.1 x8.2.2.2.2.2.2.2.2.1), ([], (((Su.maxN (Int.toNat (((Su.addN (Int.toNat x8.2.2.2.2.2.2.2.2.1) (Int.toNat (((Su.negF (Int.toNat (Su.midI x8.2.2.2.2.2.2.2.1 x8.2.2.2.2.2.2.2.2.1))) : Nat) : Int)) 1) : Nat) : Int)) (Int.toNat (((Su.addN (Int.toNat (Su.midI x8.2.2.2.2.2.2.2.1 x8.2.2.2.2.2.2.2.2.1)) (Int.toNat (((Su.negF (Int.toNat x8.2.2.2.2.2.2.2.1)) : Nat) : Int)) 1) : Nat) : Int))) : Nat) : Int))))).1, ((Su.doneF (false, ((Su.midI x8.2.2.2.2.2.2.2.1 x8.2.2.2.2.2.2.2.2.1), ([], (((Su.maxN (Int.toNat (((Su.addN (Int.toNat x8.2.2.2.2.2.2.2.2.1) (Int.toNat (((Su.negF (Int.toNat (Su.midI x8.2.2.2.2.2.2.2.1 x8.2.2.2.2.2.2.2.2.1))) : Nat) : Int)) 1) : Nat) : Int)) (Int.toNat (((Su.addN (Int.toNat (Su.midI x8.2.2.2.2.2.2.2.1 x8.2.2.2.2.2.2.2.2.1)) (Int.toNat (((Su.negF (Int.toNat x8.2.2.2.2.2.2.2.1)) : Nat) : Int)) 1) : Nat) : Int))) : Nat) : Int))))).2.1, ((Su.doneF (false, ((Su.midI x8.2.2.2.2.2.2.2.1 x8.2.2.2.2.2.2.2.2.1), ([], (((Su.maxN (Int.toNat (((Su.addN (Int.toNat x8.2.2.2.2.2.2.2.2.1) (Int.toNat (((Su.negF (Int.toNat (Su.midI x8.2.2.2.2.2.2.2.1 x8.2.2.2.2.2.2.2.2.1))) : Nat) : Int)) 1) : Nat) : Int)) (Int.toNat (((Su.addN (Int.toNat (Su.midI x8.2.2.2.2.2.2.2.1 x8.2.2.2.2.2.2.2.2.1)) (Int.toNat (((Su.negF (Int.toNat x8.2.2.2.2.2.2.2.1)) : Nat) : Int)) 1) : Nat) : Int))) : Nat) : Int))))).2.2.1, (Su.doneF (false, ((Su.midI x8.2.2.2.2.2.2.2.1 x8.2.2.2.2.2.2.2.2.1), ([], (((Su.maxN (Int.toNat (((Su.addN (Int.toNat x8.2.2.2.2.2.2.2.2.1) (Int.toNat (((Su.negF (Int.toNat (Su.midI x8.2.2.2.2.2.2.2.1 x8.2.2.2.2.2.2.2.2.1))) : Nat) : Int)) 1) : Nat) : Int)) (Int.toNat (((Su.addN (Int.toNat (Su.midI x8.2.2.2.2.2.2.2.1 x8.2.2.2.2.2.2.2.2.1)) (Int.toNat (((Su.negF (Int.toNat x8.2.2.2.2.2.2.2.1)) : Nat) : Int)) 1) : Nat) : Int))) : Nat) : Int))))).2.2.2)))
 else
  some ((Su.doneF (false, ((Su.midI x8.2.2.2.2.2.2.2.1 x8.2.2.2.2.2.2.2.2.1), ([(Su.Tm.mk id (((Su.maxN (Int.toNat (((Su.addN (Int.toNat x8.2.2.2.2.2.2.2.2.1) (Int.toNat (((Su.negF (Int.toNat (Su.midI x8.2.2.2.2.2.2.2.1 x8.2.2.2.2.2.2.2.2.1))) : Nat) : Int)) 1) : Nat) : Int)) (Int.toNat (((Su.addN (Int.toNat (Su.midI x8.2.2.2.2.2.2.2.1 x8.2.2.2.2.2.2.2.2.1)) (Int.toNat (((Su.negF (Int.toNat x8.2.2.2.2.2.2.2.1)) : Nat) : Int)) 1) : Nat) : Int))) : Nat) : Int))], (0 : Int))))).1, ((Su.doneF (false, ((Su.midI x8.2.2.2.2.2.2.2.1 x8.2.2.2.2.2.2.2.2.1), ([(Su.Tm.mk id (((Su.maxN (Int.toNat (((Su.addN (Int.toNat x8.2.2.2.2.2.2.2.2.1) (Int.toNat (((Su.negF (Int.toNat (Su.midI x8.2.2.2.2.2.2.2.1 x8.2.2.2.2.2.2.2.2.1))) : Nat) : Int)) 1) : Nat) : Int)) (Int.toNat (((Su.addN (Int.toNat (Su.midI x8.2.2.2.2.2.2.2.1 x8.2.2.2.2.2.2.2.2.1)) (Int.toNat (((Su.negF (Int.toNat x8.2.2.2.2.2.2.2.1)) : Nat) : Int)) 1) : Nat) : Int))) : Nat) : Int))], (0 : Int))))).2.1, ((Su.doneF (false, ((Su.midI x8.2.2.2.2.2.2.2.1 x8.2.2.2.2.2.2.2.2.1), ([(Su.Tm.mk id (((Su.maxN (Int.toNat (((Su.addN (Int.toNat x8.2.2.2.2.2.2.2.2.1) (Int.toNat (((Su.negF (Int.toNat (Su.midI x8.2.2.2.2.2.2.2.1 x8.2.2.2.2.2.2.2.2.1))) : Nat) : Int)) 1) : Nat) : Int)) (Int.toNat (((Su.addN (Int.toNat (Su.midI x8.2.2.2.2.2.2.2.1 x8.2.2.2.2.2.2.2.2.1)) (Int.toNat (((Su.negF (Int.toNat x8.2.2.2.2.2.2.2.1)) : Nat) : Int)) 1) : Nat) : Int))) : Nat) : Int))], (0 : Int))))).2.2.1, (Su.doneF (false, ((Su.midI x8.2.2.2.2.2.2.2.1 x8.2.2.2.2.2.2.2.2.1), ([(Su.Tm.mk id (((Su.maxN (Int.toNat (((Su.addN (Int.toNat x8.2.2.2.2.2.2.2.2.1) (Int.toNat (((Su.negF (Int.toNat (Su.midI x8.2.2.2.2.2.2.2.1 x8.2.2.2.2.2.2.2.2.1))) : Nat) : Int)) 1) : Nat) : Int)) (Int.toNat (((Su.addN (Int.toNat (Su.midI x8.2.2.2.2.2.2.2.1 x8.2.2.2.2.2.2.2.2.1)) (Int.toNat (((Su.negF (Int.toNat x8.2.2.2.2.2.2.2.1)) : Nat) : Int)) 1) : Nat) : Int))) : Nat) : Int))], (0 : Int))))).2.2.2)))))))
def rSpan  (a : (Bool × (Int × ((List Int) × ((List Int) × Int))))) : Option (Bool × (Int × Int)) :=
  ((Su.rIn (a.1, (a.2.1, (a.2.2.1, (a.2.2.2.1, a.2.2.2.2)))))).bind fun x0 =>
  (bif x0.1 then
  some (false, ((18442240474082181120 : Int), (9218868437227405312 : Int)))
 else
  ((Su.rRad_s (x0.1, (x0.2.1, (x0.2.2.1, (x0.2.2.2.1, x0.2.2.2.2)))))).bind fun x1 =>
  some ((Su.normS (false, ((Su.addI x0.2.1 (Su.flipI x1) 2), (Su.addI x0.2.1 x1 1)))).1, ((Su.normS (false, ((Su.addI x0.2.1 (Su.flipI x1) 2), (Su.addI x0.2.1 x1 1)))).2.1, (Su.normS (false, ((Su.addI x0.2.1 (Su.flipI x1) 2), (Su.addI x0.2.1 x1 1)))).2.2)))
def rFrom  (s : (Bool × (Int × Int))) (id : Int) : Option (Bool × (Int × ((List Int) × ((List Int) × Int)))) :=
  (bif (Su.normS (s.1, (s.2.1, s.2.2))).1 then
  some (true, ((0 : Int), ([], ([], (0 : Int)))))
 else
  (bif (!(Su.finK (Su.bK (Int.toNat (Su.normS (s.1, (s.2.1, s.2.2))).2.1)))) then
  some (true, ((0 : Int), ([], ([], (0 : Int)))))
 else
  (bif (!(Su.finK (Su.bK (Int.toNat (Su.normS (s.1, (s.2.1, s.2.2))).2.2)))) then
  some (true, ((0 : Int), ([], ([], (0 : Int)))))
 else
  (bif (decide (((Su.cmpC (Int.toNat (Su.addI (Su.normS (s.1, (s.2.1, s.2.2))).2.2 (Su.flipI (Su.addI (Su.mulI (Su.normS (s.1, (s.2.1, s.2.2))).2.1 4602678819172646912 0) (Su.mulI (Su.normS (s.1, (s.2.1, s.2.2))).2.2 4602678819172646912 0) 0)) 1)) (Int.toNat (Su.addI (Su.addI (Su.mulI (Su.normS (s.1, (s.2.1, s.2.2))).2.1 4602678819172646912 0) (Su.mulI (Su.normS (s.1, (s.2.1, s.2.2))).2.2 4602678819172646912 0) 0) (Su.flipI (Su.normS (s.1, (s.2.1, s.2.2))).2.1) 1))) < 0))) then
  (bif (decide ((0 ≤ id))) then
  some ((Su.ofF (Su.doneR (Su.toF (false, ((Su.addI (Su.mulI (Su.normS (s.1, (s.2.1, s.2.2))).2.1 4602678819172646912 0) (Su.mulI (Su.normS (s.1, (s.2.1, s.2.2))).2.2 4602678819172646912 0) 0), ([id], ([(Su.addI (Su.addI (Su.mulI (Su.normS (s.1, (s.2.1, s.2.2))).2.1 4602678819172646912 0) (Su.mulI (Su.normS (s.1, (s.2.1, s.2.2))).2.2 4602678819172646912 0) 0) (Su.flipI (Su.normS (s.1, (s.2.1, s.2.2))).2.1) 1)], (0 : Int)))))))).1, ((Su.doneR (Su.toF (false, ((Su.addI (Su.mulI (Su.normS (s.1, (s.2.1, s.2.2))).2.1 4602678819172646912 0) (Su.mulI (Su.normS (s.1, (s.2.1, s.2.2))).2.2 4602678819172646912 0) 0), ([id], ([(Su.addI (Su.addI (Su.mulI (Su.normS (s.1, (s.2.1, s.2.2))).2.1 4602678819172646912 0) (Su.mulI (Su.normS (s.1, (s.2.1, s.2.2))).2.2 4602678819172646912 0) 0) (Su.flipI (Su.normS (s.1, (s.2.1, s.2.2))).2.1) 1)], (0 : Int))))))).2.1, ((List.map (Su.Tm.id) (Su.doneR (Su.toF (false, ((Su.addI (Su.mulI (Su.normS (s.1, (s.2.1, s.2.2))).2.1 4602678819172646912 0) (Su.mulI (Su.normS (s.1, (s.2.1, s.2.2))).2.2 4602678819172646912 0) 0), ([id], ([(Su.addI (Su.addI (Su.mulI (Su.normS (s.1, (s.2.1, s.2.2))).2.1 4602678819172646912 0) (Su.mulI (Su.normS (s.1, (s.2.1, s.2.2))).2.2 4602678819172646912 0) 0) (Su.flipI (Su.normS (s.1, (s.2.1, s.2.2))).2.1) 1)], (0 : Int))))))).2.2.1), ((List.map (Su.Tm.c) (Su.doneR (Su.toF (false, ((Su.addI (Su.mulI (Su.normS (s.1, (s.2.1, s.2.2))).2.1 4602678819172646912 0) (Su.mulI (Su.normS (s.1, (s.2.1, s.2.2))).2.2 4602678819172646912 0) 0), ([id], ([(Su.addI (Su.addI (Su.mulI (Su.normS (s.1, (s.2.1, s.2.2))).2.1 4602678819172646912 0) (Su.mulI (Su.normS (s.1, (s.2.1, s.2.2))).2.2 4602678819172646912 0) 0) (Su.flipI (Su.normS (s.1, (s.2.1, s.2.2))).2.1) 1)], (0 : Int))))))).2.2.1), (Su.doneR (Su.toF (false, ((Su.addI (Su.mulI (Su.normS (s.1, (s.2.1, s.2.2))).2.1 4602678819172646912 0) (Su.mulI (Su.normS (s.1, (s.2.1, s.2.2))).2.2 4602678819172646912 0) 0), ([id], ([(Su.addI (Su.addI (Su.mulI (Su.normS (s.1, (s.2.1, s.2.2))).2.1 4602678819172646912 0) (Su.mulI (Su.normS (s.1, (s.2.1, s.2.2))).2.2 4602678819172646912 0) 0) (Su.flipI (Su.normS (s.1, (s.2.1, s.2.2))).2.1) 1)], (0 : Int))))))).2.2.2))))
 else
  some ((Su.ofF (Su.doneR (Su.toF (false, ((Su.addI (Su.mulI (Su.normS (s.1, (s.2.1, s.2.2))).2.1 4602678819172646912 0) (Su.mulI (Su.normS (s.1, (s.2.1, s.2.2))).2.2 4602678819172646912 0) 0), ([], ([], (Su.addI (Su.addI (Su.mulI (Su.normS (s.1, (s.2.1, s.2.2))).2.1 4602678819172646912 0) (Su.mulI (Su.normS (s.1, (s.2.1, s.2.2))).2.2 4602678819172646912 0) 0) (Su.flipI (Su.normS (s.1, (s.2.1, s.2.2))).2.1) 1)))))))).1, ((Su.doneR (Su.toF (false, ((Su.addI (Su.mulI (Su.normS (s.1, (s.2.1, s.2.2))).2.1 4602678819172646912 0) (Su.mulI (Su.normS (s.1, (s.2.1, s.2.2))).2.2 4602678819172646912 0) 0), ([], ([], (Su.addI (Su.addI (Su.mulI (Su.normS (s.1, (s.2.1, s.2.2))).2.1 4602678819172646912 0) (Su.mulI (Su.normS (s.1, (s.2.1, s.2.2))).2.2 4602678819172646912 0) 0) (Su.flipI (Su.normS (s.1, (s.2.1, s.2.2))).2.1) 1))))))).2.1, ((List.map (Su.Tm.id) (Su.doneR (Su.toF (false, ((Su.addI (Su.mulI (Su.normS (s.1, (s.2.1, s.2.2))).2.1 4602678819172646912 0) (Su.mulI (Su.normS (s.1, (s.2.1, s.2.2))).2.2 4602678819172646912 0) 0), ([], ([], (Su.addI (Su.addI (Su.mulI (Su.normS (s.1, (s.2.1, s.2.2))).2.1 4602678819172646912 0) (Su.mulI (Su.normS (s.1, (s.2.1, s.2.2))).2.2 4602678819172646912 0) 0) (Su.flipI (Su.normS (s.1, (s.2.1, s.2.2))).2.1) 1))))))).2.2.1), ((List.map (Su.Tm.c) (Su.doneR (Su.toF (false, ((Su.addI (Su.mulI (Su.normS (s.1, (s.2.1, s.2.2))).2.1 4602678819172646912 0) (Su.mulI (Su.normS (s.1, (s.2.1, s.2.2))).2.2 4602678819172646912 0) 0), ([], ([], (Su.addI (Su.addI (Su.mulI (Su.normS (s.1, (s.2.1, s.2.2))).2.1 4602678819172646912 0) (Su.mulI (Su.normS (s.1, (s.2.1, s.2.2))).2.2 4602678819172646912 0) 0) (Su.flipI (Su.normS (s.1, (s.2.1, s.2.2))).2.1) 1))))))).2.2.1), (Su.doneR (Su.toF (false, ((Su.addI (Su.mulI (Su.normS (s.1, (s.2.1, s.2.2))).2.1 4602678819172646912 0) (Su.mulI (Su.normS (s.1, (s.2.1, s.2.2))).2.2 4602678819172646912 0) 0), ([], ([], (Su.addI (Su.addI (Su.mulI (Su.normS (s.1, (s.2.1, s.2.2))).2.1 4602678819172646912 0) (Su.mulI (Su.normS (s.1, (s.2.1, s.2.2))).2.2 4602678819172646912 0) 0) (Su.flipI (Su.normS (s.1, (s.2.1, s.2.2))).2.1) 1))))))).2.2.2)))))
 else
  (bif (decide ((0 ≤ id))) then
  some ((Su.ofF (Su.doneR (Su.toF (false, ((Su.addI (Su.mulI (Su.normS (s.1, (s.2.1, s.2.2))).2.1 4602678819172646912 0) (Su.mulI (Su.normS (s.1, (s.2.1, s.2.2))).2.2 4602678819172646912 0) 0), ([id], ([(Su.addI (Su.normS (s.1, (s.2.1, s.2.2))).2.2 (Su.flipI (Su.addI (Su.mulI (Su.normS (s.1, (s.2.1, s.2.2))).2.1 4602678819172646912 0) (Su.mulI (Su.normS (s.1, (s.2.1, s.2.2))).2.2 4602678819172646912 0) 0)) 1)], (0 : Int)))))))).1, ((Su.doneR (Su.toF (false, ((Su.addI (Su.mulI (Su.normS (s.1, (s.2.1, s.2.2))).2.1 4602678819172646912 0) (Su.mulI (Su.normS (s.1, (s.2.1, s.2.2))).2.2 4602678819172646912 0) 0), ([id], ([(Su.addI (Su.normS (s.1, (s.2.1, s.2.2))).2.2 (Su.flipI (Su.addI (Su.mulI (Su.normS (s.1, (s.2.1, s.2.2))).2.1 4602678819172646912 0) (Su.mulI (Su.normS (s.1, (s.2.1, s.2.2))).2.2 4602678819172646912 0) 0)) 1)], (0 : Int))))))).2.1, ((List.map (Su.Tm.id) (Su.doneR (Su.toF (false, ((Su.addI (Su.mulI (Su.normS (s.1, (s.2.1, s.2.2))).2.1 4602678819172646912 0) (Su.mulI (Su.normS (s.1, (s.2.1, s.2.2))).2.2 4602678819172646912 0) 0), ([id], ([(Su.addI (Su.normS (s.1, (s.2.1, s.2.2))).2.2 (Su.flipI (Su.addI (Su.mulI (Su.normS (s.1, (s.2.1, s.2.2))).2.1 4602678819172646912 0) (Su.mulI (Su.normS (s.1, (s.2.1, s.2.2))).2.2 4602678819172646912 0) 0)) 1)], (0 : Int))))))).2.2.1), ((List.map (Su.Tm.c) (Su.doneR (Su.toF (false, ((Su.addI (Su.mulI (Su.normS (s.1, (s.2.1, s.2.2))).2.1 4602678819172646912 0) (Su.mulI (Su.normS (s.1, (s.2.1, s.2.2))).2.2 4602678819172646912 0) 0), ([id], ([(Su.addI (Su.normS (s.1, (s.2.1, s.2.2))).2.2 (Su.flipI (Su.addI (Su.mulI (Su.normS (s.1, (s.2.1, s.2.2))).2.1 4602678819172646912 0) (Su.mulI (Su.normS (s.1, (s.2.1, s.2.2))).2.2 4602678819172646912 0) 0)) 1)], (0 : Int))))))).2.2.1), (Su.doneR (Su.toF (false, ((Su.addI (Su.mulI (Su.normS (s.1, (s.2.1, s.2.2))).2.1 4602678819172646912 0) (Su.mulI (Su.normS (s.1, (s.2.1, s.2.2))).2.2 4602678819172646912 0) 0), ([id], ([(Su.addI (Su.normS (s.1, (s.2.1, s.2.2))).2.2 (Su.flipI (Su.addI (Su.mulI (Su.normS (s.1, (s.2.1, s.2.2))).2.1 4602678819172646912 0) (Su.mulI (Su.normS (s.1, (s.2.1, s.2.2))).2.2 4602678819172646912 0) 0)) 1)], (0 : Int))))))).2.2.2))))
 else
  some ((Su.ofF (Su.doneR (Su.toF (false, ((Su.addI (Su.mulI (Su.normS (s.1, (s.2.1, s.2.2))).2.1 4602678819172646912 0) (Su.mulI (Su.normS (s.1, (s.2.1, s.2.2))).2.2 4602678819172646912 0) 0), ([], ([], (Su.addI (Su.normS (s.1, (s.2.1, s.2.2))).2.2 (Su.flipI (Su.addI (Su.mulI (Su.normS (s.1, (s.2.1, s.2.2))).2.1 4602678819172646912 0) (Su.mulI (Su.normS (s.1, (s.2.1, s.2.2))).2.2 4602678819172646912 0) 0)) 1)))))))).1, ((Su.doneR (Su.toF (false, ((Su.addI (Su.mulI (Su.normS (s.1, (s.2.1, s.2.2))).2.1 4602678819172646912 0) (Su.mulI (Su.normS (s.1, (s.2.1, s.2.2))).2.2 4602678819172646912 0) 0), ([], ([], (Su.addI (Su.normS (s.1, (s.2.1, s.2.2))).2.2 (Su.flipI (Su.addI (Su.mulI (Su.normS (s.1, (s.2.1, s.2.2))).2.1 4602678819172646912 0) (Su.mulI (Su.normS (s.1, (s.2.1, s.2.2))).2.2 4602678819172646912 0) 0)) 1))))))).2.1, ((List.map (Su.Tm.id) (Su.doneR (Su.toF (false, ((Su.addI (Su.mulI (Su.normS (s.1, (s.2.1, s.2.2))).2.1 4602678819172646912 0) (Su.mulI (Su.normS (s.1, (s.2.1, s.2.2))).2.2 4602678819172646912 0) 0), ([], ([], (Su.addI (Su.normS (s.1, (s.2.1, s.2.2))).2.2 (Su.flipI (Su.addI (Su.mulI (Su.normS (s.1, (s.2.1, s.2.2))).2.1 4602678819172646912 0) (Su.mulI (Su.normS (s.1, (s.2.1, s.2.2))).2.2 4602678819172646912 0) 0)) 1))))))).2.2.1), ((List.map (Su.Tm.c) (Su.doneR (Su.toF (false, ((Su.addI (Su.mulI (Su.normS (s.1, (s.2.1, s.2.2))).2.1 4602678819172646912 0) (Su.mulI (Su.normS (s.1, (s.2.1, s.2.2))).2.2 4602678819172646912 0) 0), ([], ([], (Su.addI (Su.normS (s.1, (s.2.1, s.2.2))).2.2 (Su.flipI (Su.addI (Su.mulI (Su.normS (s.1, (s.2.1, s.2.2))).2.1 4602678819172646912 0) (Su.mulI (Su.normS (s.1, (s.2.1, s.2.2))).2.2 4602678819172646912 0) 0)) 1))))))).2.2.1), (Su.doneR (Su.toF (false, ((Su.addI (Su.mulI (Su.normS (s.1, (s.2.1, s.2.2))).2.1 4602678819172646912 0) (Su.mulI (Su.normS (s.1, (s.2.1, s.2.2))).2.2 4602678819172646912 0) 0), ([], ([], (Su.addI (Su.normS (s.1, (s.2.1, s.2.2))).2.2 (Su.flipI (Su.addI (Su.mulI (Su.normS (s.1, (s.2.1, s.2.2))).2.1 4602678819172646912 0) (Su.mulI (Su.normS (s.1, (s.2.1, s.2.2))).2.2 4602678819172646912 0) 0)) 1))))))).2.2.2)))))))))
set_option linter.unusedSimpArgs false
def radP (lo hi : Int) : Int := ((maxN (addI hi (negI (midI lo hi)) 1).toNat (addI (midI lo hi) (negI lo) 1).toNat : Nat) : Int)
def fromN (n : Spn) (id : Int) : Fm :=
  bif n.1 then badF else bif !fI n.2.1 then badF else bif !fI n.2.2 then badF else
  bif decide (id < 0) then doneF (false, (midI n.2.1 n.2.2, ([], radP n.2.1 n.2.2)))
  else doneF (false, (midI n.2.1 n.2.2, ([⟨id, radP n.2.1 n.2.2⟩], 0)))
def fromF (s : Spn) (id : Int) : Fm := fromN (normS s) id
theorem norm_none (s : Spn) (h : (normS s).1 = true) : normS s = noneS := by
  unfold normS at *
  cases hc : s.1 || (!leF s.2.1 s.2.2 || (decide (s.2.1 = 9218868437227405312) || decide (s.2.2 = 18442240474082181120))) with
  | true => rfl
  | false =>
    rw [hc, cond_false] at h
    have h : s.1 = true := h
    rw [h] at hc; cases hc
def frL (s : Spn) : List Su.T := [T.agg [T.s (.bool s.1), T.s (.int .u64 s.2.1), T.s (.int .u64 s.2.2)]]
theorem from_one (s : Spn) : aFrom_l1 (frL s, (1, (0, (false, (0, (0, (true, (0, (0, ()))))))))) = some (.inl (frL s, (1, (1, (false, (0, (0, ((normS s).1, ((normS s).2.1, ((normS s).2.2, ())))))))))) := by
  have w1 : IntKind.i64.wrap (0 + 1) = 1 := by decide
  have i0 : Su.idx (frL s) 0 = some (T.agg [T.s (.bool s.1), T.s (.int .u64 s.2.1), T.s (.int .u64 s.2.2)]) := rfl
  have c1 : (T.agg [T.s (.bool s.1), T.s (.int .u64 s.2.1), T.s (.int .u64 s.2.2)]).cells = [T.s (.bool s.1), T.s (.int .u64 s.2.1), T.s (.int .u64 s.2.2)] := rfl
  have d1 : decide ((0 : Int) < 1) = true := rfl
  have e1 : (s.1, (s.2.1, s.2.2)) = s := rfl
  have g0 : ([T.s (.bool s.1), T.s (.int .u64 s.2.1), T.s (.int .u64 s.2.2)] : List T)[0]? = some (T.s (.bool s.1)) := rfl
  have g1 : ([T.s (.bool s.1), T.s (.int .u64 s.2.1), T.s (.int .u64 s.2.2)] : List T)[1]? = some (T.s (.int .u64 s.2.1)) := rfl
  have g2 : ([T.s (.bool s.1), T.s (.int .u64 s.2.1), T.s (.int .u64 s.2.2)] : List T)[2]? = some (T.s (.int .u64 s.2.2)) := rfl
  have k0 : Su.asB (.t (T.s (.bool s.1))) = some s.1 := rfl
  have k1 : ∀ n : Int, Su.asI .u64 (.t (T.s (.int .u64 n))) = some n := fun n => by simp [asI]
  unfold aFrom_l1
  simp only [d1, cond_true, i0, Option.bind_some, c1, g0, g1, g2, k0, k1, e1, w1]
  cases h : (normS s).1 with
  | true =>
    have hn := norm_none s h
    rw [hn]; rfl
  | false => rfl
theorem from_two (a : List Su.T) (z : Bool × (Int × (Int × Unit))) : aFrom_l1 (a, (1, (1, (false, (0, (0, z)))))) = some (.inr (a, (1, (1, (false, (0, (0, z))))))) := rfl
theorem from_loop (s : Spn) : ∃ n, itP n aFrom_l1 (frL s, (1, (0, (false, (0, (0, (true, (0, (0, ()))))))))) = some (frL s, (1, (1, (false, (0, (0, ((normS s).1, ((normS s).2.1, ((normS s).2.2, ()))))))))) :=
  it_next (from_one s) (it_end (from_two _ _))
def aFrom_s (p : Spn × Int) : Option Fm := some (fromF p.1 p.2)
theorem aFrom_ok (p : Spn × Int) (y : Fm) (hg : (dc cSpn (d1 (cI .i64))).good p) (h : aFrom_s p = some y) : ∃ n, aFrom n p.1 p.2 = some y := by
  obtain ⟨s, id⟩ := p
  have := soi h; subst this
  obtain ⟨n, h1⟩ := from_loop s
  refine ⟨n, ?_⟩
  unfold aFrom
  refine obs h1 ?_
  unfold fromF fromN
  cases (normS s).1 <;> simp only [cond_true, cond_false]
  · have f1 : finK (bK ((normS s).2.1).toNat) = fI (normS s).2.1 := rfl
    have f2 : finK (bK ((normS s).2.2).toNat) = fI (normS s).2.2 := rfl
    rw [f1, f2]
    cases fI (normS s).2.1 <;> simp only [Bool.not_true, Bool.not_false, cond_true, cond_false]
    · rfl
    · cases fI (normS s).2.2 <;> simp only [Bool.not_true, Bool.not_false, cond_true, cond_false]
      · rfl
      · cases decide (id < 0) <;> rfl
  · rfl
def rSpan_s (x : Rf) : Option Spn := bif okR x then some (spanF (toF x)) else none
theorem rSpan_ok (x : Rf) (y : Spn) (hg : (d1 cRf).good x) (h : rSpan_s x = some y) : rSpan x = some y := by
  obtain ⟨hx, h2⟩ := bif_some h
  have := soi h2; subst this
  revert hg
  refine onR (P := fun x => (d1 cRf).good x → rSpan x = some (spanF (toF x))) (fun a hl hg => ?_) hx
  have wa := wf_good hg
  rw [to_of]
  unfold rSpan spanF
  refine obs (rIn_of a) ?_
  rcases okF_cases a with ⟨h1, h2⟩ | ⟨h1, h2, h3, h4⟩ | ⟨h1, h2, h3⟩
  · rw [h1, h2]; rfl
  · rw [h1, h2, h4]; rfl
  · rw [h1, h2, cond_true, cond_true, show (ofF a).1 = false from h3, cond_false]
    have hr : rRad_s (ofF a) = some (radF a) := by
      unfold rRad_s
      rw [okR_of hl, to_of]; rfl
    refine obs (show rRad_s (false, ((ofF a).2.1, ((ofF a).2.2.1, ((ofF a).2.2.2.1, (ofF a).2.2.2.2)))) = some (radF a) by rw [← hr]; rw [← show (ofF a).1 = false from h3]) ?_
    rw [add_flip (wd_rad wa)]
    rfl
theorem wd_half : Wd64 4602678819172646912 := ⟨4602678819172646912, rfl, by omega⟩
theorem wd_mid {a b : Int} (wa : Wd64 a) (wb : Wd64 b) : Wd64 (midI a b) := wd_add (wd_mul wa wd_half 0) (wd_mul wb wd_half 0) 0
theorem wd_lt {a : Int} (w : Wd64 a) : a.toNat < 18446744073709551616 := by
  obtain ⟨n, rfl, h⟩ := w; rw [Int.toNat_natCast]; exact h
theorem wd_cast {a : Int} (w : Wd64 a) : ((a.toNat : Nat) : Int) = a := by
  obtain ⟨n, rfl, h⟩ := w; rw [Int.toNat_natCast]
theorem mid_num {a b : Int} (fa : fI a = true) (fb : fI b = true) : nanK (bK (midI a b).toNat) = false := by
  have h1 := half_fin (mode := 0) (fI_iff.1 fa)
  have h2 := half_fin (mode := 0) (fI_iff.1 fb)
  unfold midI addI mulI
  rw [Int.toNat_natCast, addN_eq, mulN_eq, mulN_eq]
  exact add_num (nanK_not.2 (Nat.le_trans (show bK (mulF a.toNat 4602678819172646912 0) ≤ _ from h1) (by decide))) h2
theorem rad_cmp {lo hi : Int} (wl : Wd64 lo) (wh : Wd64 hi) (fl : fI lo = true) (fh : fI hi = true) :
    radP lo hi = bif decide (cmpC (addI hi (flipI (midI lo hi)) 1).toNat (addI (midI lo hi) (flipI lo) 1).toNat < 0) then addI (midI lo hi) (flipI lo) 1 else addI hi (flipI (midI lo hi)) 1 := by
  have wm := wd_mid wl wh
  have hm := mid_num fl fh
  have nm : nanK (bK (negF (midI lo hi).toNat)) = false := by
    rw [← flip_neg hm, bK_flip (wd_lt wm)]; exact hm
  have fn : bK (negI lo).toNat ≤ 9218868437227405311 := fI_iff.1 (by rw [fI_neg wl]; exact fl)
  rw [add_flip wm, add_flip wl]
  have n1 : nanK (bK (addI hi (negI (midI lo hi)) 1).toNat) = false := by
    unfold addI
    rw [Int.toNat_natCast, addN_eq]
    exact add_num' (fI_iff.1 fh) (by rw [negI_nat]; exact nm)
  have n2 : nanK (bK (addI (midI lo hi) (negI lo) 1).toNat) = false := by
    unfold addI
    rw [Int.toNat_natCast, addN_eq]
    exact add_num hm fn
  unfold radP
  rw [max_num n1 n2]
  have w1 : Wd64 (addI hi (negI (midI lo hi)) 1) := wd_add wh (wd_neg wm) 1
  have w2 : Wd64 (addI (midI lo hi) (negI lo) 1) := wd_add wm (wd_neg wl) 1
  generalize addI hi (negI (midI lo hi)) 1 = r at *
  generalize addI (midI lo hi) (negI lo) 1 = l at *
  cases decide (cmpC r.toNat l.toNat < 0)
  · exact wd_cast w1
  · exact wd_cast w2
theorem wd_nz {f : Int} (w : Wd64 f) : Wd64 (nzI f) := by
  unfold nzI; cases zI f
  · exact w
  · exact wd_0
theorem wd_norm {s : Spn} (w1 : Wd64 s.2.1) (w2 : Wd64 s.2.2) : Wd64 (normS s).2.1 ∧ Wd64 (normS s).2.2 := by
  unfold normS
  cases s.1 || (!leF s.2.1 s.2.2 || (decide (s.2.1 = 9218868437227405312) || decide (s.2.2 = 18442240474082181120)))
  · exact ⟨wd_nz w1, wd_nz w2⟩
  · exact ⟨wd_0, wd_0⟩
theorem neg_id (id : Int) : decide (id < 0) = !decide (0 ≤ id) := by
  by_cases h0 : 0 ≤ id
  · rw [decide_eq_true h0, decide_eq_false (by omega)]; rfl
  · rw [decide_eq_false h0, decide_eq_true (by omega)]; rfl
def rFrom_s (p : Spn × Int) : Option Rf := some (ofF (fromF p.1 p.2))
theorem rFrom_ok (p : Spn × Int) (y : Rf) (hg : (dc cSpn (d1 (cI .i64))).good p) (h : rFrom_s p = some y) : rFrom p.1 p.2 = some y := by
  obtain ⟨s, id⟩ := p
  have := soi h; subst this
  have w1 : Wd64 s.2.1 := wd_of hg.1.2.1
  have w2 : Wd64 s.2.2 := wd_of hg.1.2.2
  obtain ⟨v1, v2⟩ := wd_norm w1 w2
  clear hg h
  show rFrom s id = some (ofF (fromF s id))
  have e1 : (s.1, (s.2.1, s.2.2)) = s := rfl
  have hf : ∀ f : Int, finK (bK (Int.toNat f)) = fI f := fun _ => rfl
  unfold rFrom fromF
  rw [e1]
  generalize normS s = n at *
  obtain ⟨b, lo, hi⟩ := n
  unfold fromN
  simp only [hf] at *
  cases b
  · cases h1 : fI lo
    · rfl
    · cases h2 : fI hi
      · rfl
      · rw [rad_cmp v1 v2 h1 h2]
        simp only [Bool.not_true, cond_false]
        rw [neg_id id]
        show (bif decide (cmpC (addI hi (flipI (midI lo hi)) 1).toNat (addI (midI lo hi) (flipI lo) 1).toNat < 0) then _ else _) = _
        cases decide (cmpC (addI hi (flipI (midI lo hi)) 1).toNat (addI (midI lo hi) (flipI lo) 1).toNat < 0) <;> cases decide (0 ≤ id) <;> rfl
  · rfl
end
end Su
end
