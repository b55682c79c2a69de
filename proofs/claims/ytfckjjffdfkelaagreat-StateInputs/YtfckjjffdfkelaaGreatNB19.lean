/-
  What functions of the program compute, in plain Lean, and that the evaluator finds it.
-/
import Derived.Test.YtfckjjffdfkelaaGreatSuSd
import Derived.Test.YtfckjjffdfkelaaGreatRiv
import Derived.Test.YtfckjjffdfkelaaGreatNC15
import Derived.Test.YtfckjjffdfkelaaGreatNB10
set_option maxRecDepth 10000
section
namespace Su
open Go Fly
set_option linter.unusedVariables false
noncomputable section
def heavy_l2 : ((List (Bool × (Bool × (Int × (Int × (List Su.Ce)))))) × (Int × (Int × Unit))) → Option (((List (Bool × (Bool × (Int × (Int × (List Su.Ce)))))) × (Int × (Int × Unit))) ⊕ (Lp ((List (Bool × (Bool × (Int × (Int × (List Su.Ce)))))) × (Int × (Int × Unit))) (((List (Bool × (Bool × (Int × (Int × (List Su.Ce)))))) × (Int × Unit)) ⊕ (Lp ((List (Bool × (Bool × (Int × (Int × (List Su.Ce)))))) × (Int × Unit)) Bool)))) := fun p2 => ((Su.idx p2.1 p2.2.1)).bind fun x3 =>
 (bif (decide ((p2.2.2.1 < (((List.length x3.2.2.2.2) : Nat) : Int)))) then
 ((Su.idx p2.1 p2.2.1)).bind fun x4 =>
 ((Su.idx x4.2.2.2.2 p2.2.2.1)).bind fun x5 =>
 (bif (decide ((8 < (((List.length x5.8.2.2.1) : Nat) : Int)))) then
 some (.inr (.ret (.inr (.ret true))))
 else
  some (.inl (p2.1, (p2.2.1, ((Go.IntKind.wrap .i64 (p2.2.2.1 + 1)), ())))))
 else
  some (.inr (.exit 2 (p2.1, (p2.2.1, (p2.2.2.1, ()))))))
def heavy_l1 (fu : Nat) : ((List (Bool × (Bool × (Int × (Int × (List Su.Ce)))))) × (Int × Unit)) → Option (((List (Bool × (Bool × (Int × (Int × (List Su.Ce)))))) × (Int × Unit)) ⊕ (Lp ((List (Bool × (Bool × (Int × (Int × (List Su.Ce)))))) × (Int × Unit)) Bool)) := fun p0 => (bif (decide ((p0.2.1 < (((List.length p0.1) : Nat) : Int)))) then
 ((Su.idx p0.1 p0.2.1)).bind fun x1 =>
 (bif (decide ((40 < (((List.length x1.2.2.2.2) : Nat) : Int)))) then
 some (.inr (.ret true))
 else
  (itP fu (heavy_l2) (p0.1, (p0.2.1, ((0 : Int), ())))).bind fun x6 =>
  (match x6 with
 | .exit i7 p8 => (bif (Nat.beq i7 2) then
  some (.inl (p8.1, ((Go.IntKind.wrap .i64 (p8.2.1 + 1)), ())))
 else
  (bif (Nat.beq i7 1) then
  some (.inl (p8.1, ((Go.IntKind.wrap .i64 (p8.2.1 + 1)), ())))
 else
  some (.inr (.exit i7 (p8.1, (p8.2.1, ()))))))
 | .ret o9 => some o9))
 else
  some (.inr (.exit 0 (p0.1, (p0.2.1, ())))))
def heavy  (fu : Nat) (c : (Int × ((List Su.Cc) × ((List Su.T) × ((List Su.T) × ((List Su.T) × ((List Su.T) × Int))))))) (l : (List (Bool × (Bool × (Int × (Int × (List Su.Ce))))))) : Option Bool :=
 (bif (decide ((40 < (((List.length c.2.1) : Nat) : Int)))) then
 some true
 else
  (itP fu (heavy_l1 fu) (l, ((0 : Int), ()))).bind fun x10 =>
  (match x10 with
 | .exit i11 p12 => (bif (Nat.beq i11 0) then
  some false
 else
  none)
 | .ret o13 => some o13))
abbrev CoD := Int × (List Su.Cc × (List Su.T × (List Su.T × (List Su.T × (List Su.T × Int)))))
abbrev StD := Bool × (Bool × (Int × (Int × List Su.Ce)))
abbrev StD.cells (s : StD) : List Su.Ce := s.2.2.2.2
abbrev CoD.cells (c : CoD) : List Su.Cc := c.2.1
def heavyN (X : List Su.Ce) (j : Nat) : Bool := match X[j]? with
 | some x => !decide (8 < ((x.fm.2.2.1.length : Nat) : Int))
 | none => true
def heavyM (l : List StD) (i : Nat) : Bool := match l[i]? with
 | some s => !decide (40 < (s.cells.length : Int)) && allN s.cells.length (heavyN s.cells)
 | none => true
def heavyS (c : CoD) (l : List StD) : Bool := bif decide (40 < (c.cells.length : Int)) then true else !allN l.length (heavyM l)
def heavy_s (a : CoD × List StD) : Option Bool := some (heavyS a.1 a.2)
theorem heavy_in (l : List StD) (hl : l.length ≤ maxLen) {i : Nat} (hi : i < l.length) (hx : l[i].cells.length ≤ maxLen) :
 Runs (l[i].cells.length + 1) heavy_l2 (l, ((i : Int), ((0 : Int), ()))) (bif allN l[i].cells.length (heavyN l[i].cells) then .exit 2 (l, ((i : Int), ((l[i].cells.length : Int), ()))) else .ret (.inr (.ret true))) := by
 have step : ∀ j, j < l[i].cells.length → heavy_l2 (l, ((i : Int), ((j : Int), ()))) = some (bif heavyN l[i].cells j then .inl (l, ((i : Int), (((j + 1 : Nat) : Int), ()))) else .inr (.ret (.inr (.ret true)))) := by
  intro j hj
  unfold heavyN
  rw [List.getElem?_eq_getElem hj]
  simp only [heavy_l2, ixl hi, Option.bind_some, ltN, decide_eq_true hj, cond_true]
  rw [ixl hj]
  simp only [Option.bind_some, w1 hj hx]
  generalize l[i].cells[j] = x
  have e : x.8.2.2.1 = x.fm.2.2.1 := rfl
  rw [e]
  cases decide (8 < ((x.fm.2.2.1.length : Nat) : Int)) <;> rfl
 exact runs_all (F := heavy_l2) (mk := fun j => (l, ((i : Int), ((j : Int), ())))) (n := l[i].cells.length) (ok := heavyN l[i].cells) (fun j hj hk => by rw [step j hj, hk]; rfl) (fun j hj hk => by rw [step j hj, hk]; rfl)
  (by simp only [heavy_l2, ixl hi, Option.bind_some, ltN, decide_eq_false (Nat.lt_irrefl _), cond_false])
theorem heavy_ok (a : CoD × List StD) (y : Bool) (hg : (dc cCo (d1 (cL rSt))).good a) (h : heavy_s a = some y) : ∃ n, heavy n a.1 a.2 = some y := by
 obtain ⟨c, l⟩ := a
 have := soi h; subst this
 have hl : l.length ≤ maxLen := hg.2.2
 have hx : ∀ s ∈ l, s.cells.length ≤ maxLen := fun s hs => (hg.2.1 s hs).2.2.2.2.2
 show ∃ n, heavy n c l = some (heavyS c l)
 unfold heavy heavyS
 cases decide (40 < ((c.2.1.length : Nat) : Int)) with
 | true => exact ⟨0, rfl⟩
 | false =>
  simp only [cond_false]
  have step : ∀ i, i < l.length → heavy_l1 (maxLen + 1) (l, ((i : Int), ())) = some (bif heavyM l i then .inl (l, (((i + 1 : Nat) : Int), ())) else .inr (.ret true)) := by
   intro i hi
   have h1 := hx _ (List.getElem_mem hi)
   have h2 := heavy_in l hl hi h1 (maxLen + 1) (by omega)
   unfold heavyM
   rw [List.getElem?_eq_getElem hi]
   simp only [heavy_l1, ltN, decide_eq_true hi, cond_true, ixl hi, Option.bind_some, h2, w1 hi hl]
   generalize l[i] = s
   show (bif decide (40 < (s.cells.length : Int)) then _ else _) = _
   cases decide (40 < (s.cells.length : Int)) with
   | true => rfl
   | false =>
    cases allN s.cells.length (heavyN s.cells) with
    | false => rfl
    | true =>
     simp only [cond_true, cond_false, Bool.not_false, Bool.true_and, nbeq, w1 hi hl]
  have run := runs_all (F := heavy_l1 (maxLen + 1)) (mk := fun i => (l, ((i : Int), ()))) (n := l.length) (ok := heavyM l) (r1 := .ret true) (r0 := .exit 0 (l, (((l.length : Nat) : Int), ()))) (fun i hi hk => by rw [step i hi, hk]; rfl) (fun i hi hk => by rw [step i hi, hk]; rfl)
   (by simp only [heavy_l1, ltN, decide_eq_false (Nat.lt_irrefl _), cond_false])
  refine ⟨maxLen + 1, ?_⟩
  rw [show ((0 : Int)) = ((0 : Nat) : Int) from rfl, run _ (by omega)]
  show _ = some (!allN l.length (heavyM l))
  cases allN l.length (heavyM l) <;> rfl
end
end Su
end
section
namespace Su
open Go Fly
set_option linter.unusedVariables false
noncomputable section
def buildN {α : Type} (out : Nat → Option α) : Nat → Option (List α)
 | 0 => some []
 | n + 1 => (buildN out n).bind fun P => (out n).bind fun x => some (P ++ [x])
theorem buildN_len {α : Type} {out : Nat → Option α} : ∀ {n : Nat} {P : List α}, buildN out n = some P → P.length = n
 | 0, P, h => by have := soi h; subst this; rfl
 | n + 1, P, h => by
  obtain ⟨Q, h1, h⟩ := osm h
  obtain ⟨x, h2, h⟩ := osm h
  have := soi h; subst this
  rw [List.length_append, buildN_len h1]; rfl
theorem buildN_get {α : Type} {out : Nat → Option α} : ∀ {n : Nat} {P : List α}, buildN out n = some P → ∀ i, i < n → out i = P[i]?
 | 0, _, _, i, hi => by omega
 | n + 1, P, h, i, hi => by
  obtain ⟨Q, h1, h⟩ := osm h
  obtain ⟨x, h2, h⟩ := osm h
  have := soi h; subst this
  have hl := buildN_len h1
  by_cases e : i = n
  · subst e
    rw [List.getElem?_append_right (by omega), hl, Nat.sub_self, h2]; rfl
  · rw [List.getElem?_append_left (by omega)]
    exact buildN_get h1 i (by omega)
theorem buildN_no {α : Type} {out : Nat → Option α} {i : Nat} (h : out i = none) : ∀ {n : Nat}, i < n → buildN out n = none
 | 0, hi => by omega
 | n + 1, hi => by
  unfold buildN
  by_cases e : i = n
  · subst e
    cases buildN out i with
    | none => rfl
    | some P => rw [Option.bind_some, h]; rfl
  · rw [buildN_no h (by omega : i < n)]; rfl
theorem buildN_yes {α : Type} {out : Nat → Option α} : ∀ {n : Nat}, (∀ i, i < n → out i ≠ none) → ∃ P, buildN out n = some P
 | 0, _ => ⟨[], rfl⟩
 | n + 1, h => by
  obtain ⟨P, hP⟩ := buildN_yes (n := n) fun i hi => h i (by omega)
  cases ho : out n with
  | none => exact absurd ho (h n (by omega))
  | some x => exact ⟨P ++ [x], by unfold buildN; rw [hP, Option.bind_some, ho]; rfl⟩
def endB {α R : Type} (r1 : R) (r0 : List α → R) : Option (List α) → R
 | some P => r0 P
 | none => r1
theorem runs_bfrom {S R α : Type} {F : S → Option (S ⊕ R)} {mk : Nat → List α → S} {n : Nat} {out : Nat → Option α} {r1 : R} {r0 : List α → R}
 (h1 : ∀ i P x, i < n → P.length = i → out i = some x → F (mk i P) = some (.inl (mk (i + 1) (P ++ [x]))))
 (h2 : ∀ i P, i < n → P.length = i → out i = none → F (mk i P) = some (.inr r1))
 (h0 : ∀ P, P.length = n → F (mk n P) = some (.inr (r0 P))) :
 ∀ (j i : Nat) (P : List α), i + j = n → buildN out i = some P → Runs (j + 1) F (mk i P) (endB r1 r0 (buildN out n))
 | 0, i, P, h, hb => by
  have : i = n := by omega
  subst this
  rw [hb]
  exact Runs.stop (h0 P (buildN_len hb))
 | j + 1, i, P, h, hb => by
  cases ho : out i with
  | none =>
   rw [buildN_no ho (by omega : i < n)]
   exact Runs.stop (h2 i P (by omega) (buildN_len hb) ho)
  | some x =>
   exact Runs.next (h1 i P x (by omega) (buildN_len hb) ho) (runs_bfrom h1 h2 h0 j (i + 1) (P ++ [x]) (by omega) (by show (buildN out i).bind _ = _; rw [hb, Option.bind_some, ho]; rfl))
theorem runs_build {S R α : Type} {F : S → Option (S ⊕ R)} {mk : Nat → List α → S} {n : Nat} {out : Nat → Option α} {r1 : R} {r0 : List α → R}
 (h1 : ∀ i P x, i < n → P.length = i → out i = some x → F (mk i P) = some (.inl (mk (i + 1) (P ++ [x]))))
 (h2 : ∀ i P, i < n → P.length = i → out i = none → F (mk i P) = some (.inr r1))
 (h0 : ∀ P, P.length = n → F (mk n P) = some (.inr (r0 P))) : Runs (n + 1) F (mk 0 []) (endB r1 r0 (buildN out n)) :=
 runs_bfrom h1 h2 h0 n 0 [] (by omega) rfl
end
end Su
end
section
namespace Su
open Go Fly
set_option linter.unusedVariables false
noncomputable section
abbrev sTick_l1_S := (Int × ((List Su.Cc) × ((List Su.T) × ((List Su.T) × ((List Su.T) × ((List Su.T) × (Int × ((List Su.Ce) × (Int × (Int × ((List Su.T) × (Bool × (Bool × (Int × (Int × (Nat × ((List Su.T) × (Bool × (Bool × (Int × (Int × (Nat × Unit))))))))))))))))))))))
def sTick_l1 : sTick_l1_S → Option (sTick_l1_S ⊕ (Lp sTick_l1_S (Bool × (Bool × (Int × (Int × (List Su.Ce))))))) := fun p0 => (bif (decide ((p0.2.2.2.2.2.2.2.2.2.1 < p0.2.2.2.2.2.2.2.2.1))) then
 ((Su.idx p0.2.2.2.2.2.2.2.1 p0.2.2.2.2.2.2.2.2.2.1)).bind fun x1 =>
 ((Su.idx p0.2.1 p0.2.2.2.2.2.2.2.2.2.1)).bind fun x2 =>
 (bif (Su.noneC (Su.bareC (Su.Ce.mk (Su.Ce.f x1) (Su.Ce.t x1) x1.3 (Su.ckTick (x1.4, x1.5)).1 (Su.ckTick (x1.4, x1.5)).2 x1.6 (Su.Ce.sl x1) x1.8) (Su.Cc.type x2)) (Su.Cc.type x2)) then
 some (.inr (.ret (true, (false, ((0 : Int), ((0 : Int), []))))))
 else
  (bif ((true && (Nat.beq p0.2.2.2.2.2.2.2.2.2.2.2.2.2.2.2.2.2.2.2.2.2.1 (List.length p0.2.2.2.2.2.2.2.2.2.2.2.2.2.2.2.2.1))) && (Nat.ble ((List.length p0.2.2.2.2.2.2.2.2.2.2.2.2.2.2.2.2.1) + (List.length [(Su.view 14 (Su.bareC (Su.Ce.mk (Su.Ce.f x1) (Su.Ce.t x1) x1.3 (Su.ckTick (x1.4, x1.5)).1 (Su.ckTick (x1.4, x1.5)).2 x1.6 (Su.Ce.sl x1) x1.8) (Su.Cc.type x2)))])) 549755813888)) then
  some (.inl (p0.1, (p0.2.1, (p0.2.2.1, (p0.2.2.2.1, (p0.2.2.2.2.1, (p0.2.2.2.2.2.1, (p0.2.2.2.2.2.2.1, (p0.2.2.2.2.2.2.2.1, (p0.2.2.2.2.2.2.2.2.1, ((Go.IntKind.wrap .i64 (p0.2.2.2.2.2.2.2.2.2.1 + 1)), (p0.2.2.2.2.2.2.2.2.2.2.1, (p0.2.2.2.2.2.2.2.2.2.2.2.1, (p0.2.2.2.2.2.2.2.2.2.2.2.2.1, (p0.2.2.2.2.2.2.2.2.2.2.2.2.2.1, (p0.2.2.2.2.2.2.2.2.2.2.2.2.2.2.1, (p0.2.2.2.2.2.2.2.2.2.2.2.2.2.2.2.1, ((p0.2.2.2.2.2.2.2.2.2.2.2.2.2.2.2.2.1 ++ [(Su.view 14 (Su.bareC (Su.Ce.mk (Su.Ce.f x1) (Su.Ce.t x1) x1.3 (Su.ckTick (x1.4, x1.5)).1 (Su.ckTick (x1.4, x1.5)).2 x1.6 (Su.Ce.sl x1) x1.8) (Su.Cc.type x2)))]), (p0.2.2.2.2.2.2.2.2.2.2.2.2.2.2.2.2.2.1, (p0.2.2.2.2.2.2.2.2.2.2.2.2.2.2.2.2.2.2.1, (p0.2.2.2.2.2.2.2.2.2.2.2.2.2.2.2.2.2.2.2.1, (p0.2.2.2.2.2.2.2.2.2.2.2.2.2.2.2.2.2.2.2.2.1, ((List.length (p0.2.2.2.2.2.2.2.2.2.2.2.2.2.2.2.2.1 ++ [(Su.view 14 (Su.bareC (Su.Ce.mk (Su.Ce.f x1) (Su.Ce.t x1) x1.3 (Su.ckTick (x1.4, x1.5)).1 (Su.ckTick (x1.4, x1.5)).2 x1.6 (Su.Ce.sl x1) x1.8) (Su.Cc.type x2)))])), ())))))))))))))))))))))))
 else
  none))
 else
  some (.inr (.exit 0 (p0.1, (p0.2.1, (p0.2.2.1, (p0.2.2.2.1, (p0.2.2.2.2.1, (p0.2.2.2.2.2.1, (p0.2.2.2.2.2.2.1, (p0.2.2.2.2.2.2.2.1, (p0.2.2.2.2.2.2.2.2.1, (p0.2.2.2.2.2.2.2.2.2.1, (p0.2.2.2.2.2.2.2.2.2.2.1, (p0.2.2.2.2.2.2.2.2.2.2.2.1, (p0.2.2.2.2.2.2.2.2.2.2.2.2.1, (p0.2.2.2.2.2.2.2.2.2.2.2.2.2.1, (p0.2.2.2.2.2.2.2.2.2.2.2.2.2.2.1, (p0.2.2.2.2.2.2.2.2.2.2.2.2.2.2.2.1, (p0.2.2.2.2.2.2.2.2.2.2.2.2.2.2.2.2.1, (p0.2.2.2.2.2.2.2.2.2.2.2.2.2.2.2.2.2.1, (p0.2.2.2.2.2.2.2.2.2.2.2.2.2.2.2.2.2.2.1, (p0.2.2.2.2.2.2.2.2.2.2.2.2.2.2.2.2.2.2.2.1, (p0.2.2.2.2.2.2.2.2.2.2.2.2.2.2.2.2.2.2.2.2.1, (p0.2.2.2.2.2.2.2.2.2.2.2.2.2.2.2.2.2.2.2.2.2.1, ())))))))))))))))))))))))))
def sTick  (fu : Nat) (c : (Int × ((List Su.Cc) × ((List Su.T) × ((List Su.T) × ((List Su.T) × ((List Su.T) × Int))))))) (s : (Bool × (Bool × (Int × (Int × (List Su.Ce)))))) : Option (Bool × (Bool × (Int × (Int × (List Su.Ce))))) :=
 (bif s.1 then
 some (true, (false, ((0 : Int), ((0 : Int), []))))
 else
  (bif (!(decide (((((List.length s.2.2.2.2) : Nat) : Int) = (((List.length c.2.1) : Nat) : Int))))) then
  some (true, (false, ((0 : Int), ((0 : Int), []))))
 else
  (bif (Su.ivJn [(s.2.1, (s.2.2.1, s.2.2.2.1))]).1 then
  some (true, (false, ((0 : Int), ((0 : Int), []))))
 else
  (itP fu (sTick_l1) (c.1, (c.2.1, (c.2.2.1, (c.2.2.2.1, (c.2.2.2.2.1, (c.2.2.2.2.2.1, (c.2.2.2.2.2.2, (s.2.2.2.2, ((((List.length s.2.2.2.2) : Nat) : Int), ((0 : Int), ([], (false, (false, ((0 : Int), ((0 : Int), (0, ([], (false, ((Su.ivJn [(s.2.1, (s.2.2.1, s.2.2.2.1))]).1, ((Su.ivJn [(s.2.1, (s.2.2.1, s.2.2.2.1))]).2.1, ((Su.ivJn [(s.2.1, (s.2.2.1, s.2.2.2.1))]).2.2, (0, ()))))))))))))))))))))))).bind fun x3 =>
  (match x3 with
 | .exit i4 p5 => (bif (Nat.beq i4 0) then
  ((Su.sub p5.2.2.2.2.2.2.2.2.2.2.2.2.2.2.2.2.1 0 p5.2.2.2.2.2.2.2.2.2.2.2.2.2.2.2.2.2.2.2.2.2.1)).bind fun x6 =>
  (bif (!p5.2.2.2.2.2.2.2.2.2.2.2.2.2.2.2.2.2.1) then
  (((((Su.unR (Su.rCe) x6)).bind fun x7 =>
  some ((Su.ivAdd (p5.2.2.2.2.2.2.2.2.2.2.2.2.2.2.2.2.2.2.1, (p5.2.2.2.2.2.2.2.2.2.2.2.2.2.2.2.2.2.2.2.1, p5.2.2.2.2.2.2.2.2.2.2.2.2.2.2.2.2.2.2.2.2.1)) (Su.ivMk 1 1)).2.2, x7)).bind fun x8 =>
  some ((Su.ivAdd (p5.2.2.2.2.2.2.2.2.2.2.2.2.2.2.2.2.2.2.1, (p5.2.2.2.2.2.2.2.2.2.2.2.2.2.2.2.2.2.2.2.1, p5.2.2.2.2.2.2.2.2.2.2.2.2.2.2.2.2.2.2.2.2.1)) (Su.ivMk 1 1)).2.1, x8)).bind fun x9 =>
  some ((Su.ivAdd (p5.2.2.2.2.2.2.2.2.2.2.2.2.2.2.2.2.2.2.1, (p5.2.2.2.2.2.2.2.2.2.2.2.2.2.2.2.2.2.2.2.1, p5.2.2.2.2.2.2.2.2.2.2.2.2.2.2.2.2.2.2.2.2.1)) (Su.ivMk 1 1)).1, x9)).bind fun x10 =>
  some (p5.2.2.2.2.2.2.2.2.2.2.2.2.2.2.2.2.2.1, x10)
 else
  (((((Su.unR (Su.rCe) x6)).bind fun x11 =>
  some (p5.2.2.2.2.2.2.2.2.2.2.2.2.2.2.2.2.2.2.2.2.1, x11)).bind fun x12 =>
  some (p5.2.2.2.2.2.2.2.2.2.2.2.2.2.2.2.2.2.2.2.1, x12)).bind fun x13 =>
  some (p5.2.2.2.2.2.2.2.2.2.2.2.2.2.2.2.2.2.2.1, x13)).bind fun x14 =>
  some (p5.2.2.2.2.2.2.2.2.2.2.2.2.2.2.2.2.2.1, x14))
 else
  none)
 | .ret o15 => some o15))))
def vCe (x : Su.Ce) : T := view 14 x
theorem unR_vCe (P : List Su.Ce) : unR rCe (P.map vCe) = some P := unR_map rCe P
def deadS : StD := (true, (false, (0, (0, []))))
def stK (s : StD) : Iv := (s.2.1, (s.2.2.1, s.2.2.2.1))
def eachC (C : List Su.Cc) (X : List Su.Ce) (f : Nat → Su.Cc → Su.Ce → Su.Ce) (i : Nat) : Option Su.Ce :=
 match C[i]?, X[i]? with
 | some d, some x => bif noneC (bareC (f i d x) d.type) d.type then none else some (bareC (f i d x) d.type)
 | _, _ => none
def mkS (K : Iv) (X : List Su.Ce) : StD := (false, (K.1, (K.2.1, (K.2.2, X))))
def eachS (c : CoD) (s : StD) (f : Nat → Su.Cc → Su.Ce → Su.Ce) : StD :=
 bif s.1 then deadS else bif !decide (s.2.2.2.2.length = c.2.1.length) then deadS else bif (ivJn [stK s]).1 then deadS else
 endB deadS (mkS (ivJn [stK s])) (buildN (eachC c.2.1 s.2.2.2.2 f) c.2.1.length)
def smS (s : StD) : Bool := Nat.ble s.2.2.2.2.length 1000000 && s.2.2.2.2.all fun x => Nat.ble x.fm.2.2.1.length 1000000
def setC (x : Su.Ce) (k : Ckp) : Su.Ce := ⟨x.f, x.t, x.i, k.1, k.2, x.s, x.sl, x.fm⟩
def tickS (c : CoD) (s : StD) : StD := let t := eachS c s fun _ _ x => setC x (ckTick (x.d, x.p)); bif t.1 then t else mkS (ivAdd (stK t) (ivMk 1 1)) t.2.2.2.2
abbrev TkS := Int × (List Su.Cc × (List Su.T × (List Su.T × (List Su.T × (List Su.T × (Int × (List Su.Ce × (Int × (Int × (List Su.T × (Bool × (Bool × (Int × (Int × (Nat × (List Su.T × (Bool × (Bool × (Int × (Int × (Nat × Unit)))))))))))))))))))))
def tkMk (c : CoD) (s : StD) (K : Iv) (i : Int) (P : List Su.Ce) : TkS :=
 (c.1, (c.2.1, (c.2.2.1, (c.2.2.2.1, (c.2.2.2.2.1, (c.2.2.2.2.2.1, (c.2.2.2.2.2.2, (s.2.2.2.2, (((s.2.2.2.2.length : Nat) : Int), (i, ([], (false, (false, (0, (0, (0, (P.map vCe, (false, (K.1, (K.2.1, (K.2.2, (P.length, ()))))))))))))))))))))))
def sTick_s (p : CoD × StD) : Option StD := bif smS p.2 then some (tickS p.1 p.2) else none
theorem smS_len {s : StD} (h : smS s = true) : s.2.2.2.2.length ≤ 1000000 := by
 unfold smS at h
 rw [Bool.and_eq_true] at h
 exact Nat.le_of_ble_eq_true h.1
theorem app_vCe (P : List Su.Ce) (x : Su.Ce) : P.map vCe ++ [view 14 x] = (P ++ [x]).map vCe := by rw [List.map_append]; rfl
theorem sub_vCe (P : List Su.Ce) : sub (P.map vCe) 0 P.length = some (P.map vCe) := by
 unfold sub
 rw [show Nat.ble (0 + P.length) (P.map vCe).length = true from Nat.ble_eq_true_of_le (by simp), cond_true, List.drop_zero]
 congr 1
 exact List.take_of_length_le (by simp)
theorem tk_run (c : CoD) (s : StD) (K : Iv) (hl : s.2.2.2.2.length = c.2.1.length) (hs : s.2.2.2.2.length ≤ 1000000) :
 Runs (c.2.1.length + 1) sTick_l1 (tkMk c s K ((0 : Nat) : Int) []) (endB (.ret deadS) (fun P => .exit 0 (tkMk c s K (c.2.1.length : Int) P)) (buildN (eachC c.2.1 s.2.2.2.2 fun _ _ x => setC x (ckTick (x.d, x.p))) c.2.1.length)) := by
 refine runs_build (mk := fun i P => tkMk c s K (i : Int) P) ?_ ?_ ?_
 · intro i P x hi hP ho
   have i1 : i < s.2.2.2.2.length := by omega
   unfold eachC at ho
   rw [List.getElem?_eq_getElem hi, List.getElem?_eq_getElem i1] at ho
   simp only [] at ho
   unfold tkMk
   have hb : Nat.ble (P.length + 1) 549755813888 = true := Nat.ble_eq_true_of_le (by omega)
   simp only [sTick_l1, ltN, decide_eq_true i1, cond_true, ixl i1, ixl hi, Option.bind_some]
   generalize c.2.1[i] = d at *
   generalize s.2.2.2.2[i] = x0 at *
   cases hn : noneC (bareC (setC x0 (ckTick (x0.d, x0.p))) d.type) d.type with
   | true => rw [hn] at ho; cases ho
   | false =>
    rw [hn] at ho
    have := soi ho; subst this
    unfold setC at hn ⊢
    rw [hn]
    simp only [cond_false, List.length_map, List.length_cons, List.length_nil, Nat.zero_add, nbeq, hb, Bool.and_self, cond_true, app_vCe, w1 i1 (by rw [maxLen_eq]; omega)]
 · intro i P hi hP ho
   have i1 : i < s.2.2.2.2.length := by omega
   unfold eachC at ho
   rw [List.getElem?_eq_getElem hi, List.getElem?_eq_getElem i1] at ho
   simp only [] at ho
   unfold tkMk
   simp only [sTick_l1, ltN, decide_eq_true i1, cond_true, ixl i1, ixl hi, Option.bind_some]
   generalize c.2.1[i] = d at *
   generalize s.2.2.2.2[i] = x0 at *
   cases hn : noneC (bareC (setC x0 (ckTick (x0.d, x0.p))) d.type) d.type with
   | false => rw [hn] at ho; cases ho
   | true =>
    unfold setC at hn
    rw [hn]; rfl
 · intro P hP
   unfold tkMk
   simp only [sTick_l1, ltN, hl, decide_eq_false (Nat.lt_irrefl _), cond_false]
theorem bifF {α : Type} {b : Bool} {x y : α} (h : b = false) : (bif b then x else y) = y := by rw [h]; rfl
theorem bifT {α : Type} {b : Bool} {x y : α} (h : b = true) : (bif b then x else y) = x := by rw [h]; rfl
theorem eachS_run {c : CoD} {s : StD} (f : Nat → Su.Cc → Su.Ce → Su.Ce) (hd : s.1 = false) (hl : s.2.2.2.2.length = c.2.1.length) (hK : (ivJn [stK s]).1 = false) : eachS c s f = endB deadS (mkS (ivJn [stK s])) (buildN (eachC c.2.1 s.2.2.2.2 f) c.2.1.length) := by
 unfold eachS; rw [bifF hd, bifF (by rw [decide_eq_true hl]; rfl), bifF hK]
theorem lnE (a b : Nat) : (!decide ((a : Int) = (b : Int))) = !decide (a = b) := by rw [nat_eq]
theorem unSt (P : List Su.Ce) (K : Iv) (e : Bool) : ((((unR rCe (P.map vCe)).bind fun x => some (K.2.2, x)).bind fun x => some (K.2.1, x)).bind fun x => some (K.1, x)).bind (fun x => some (e, x)) = some (e, (K.1, (K.2.1, (K.2.2, P)))) := by rw [unR_vCe]; rfl
theorem sTick_ok (p : CoD × StD) (y : StD) (hg : (dc cCo (d1 cSt)).good p) (h : sTick_s p = some y) : ∃ n, sTick n p.1 p.2 = some y := by
 obtain ⟨c, s⟩ := p
 obtain ⟨hm, h⟩ := bif_some h
 have := soi h; subst this
 have hm : smS s = true := hm
 refine ⟨c.2.1.length + 1, ?_⟩
 show sTick (c.2.1.length + 1) c s = some (tickS c s)
 unfold sTick tickS
 rcases Bool.eq_false_or_eq_true s.1 with hd | hd
 · rw [show eachS c s _ = deadS from bifT hd]; exact bifT hd
 · refine (bifF hd).trans ?_
   by_cases hl : s.2.2.2.2.length = c.2.1.length
   · refine (bifF (by rw [lnE, decide_eq_true hl]; rfl)).trans ?_
     rcases Bool.eq_false_or_eq_true (ivJn [stK s]).1 with hK | hK
     · rw [show eachS c s _ = deadS from (bifF hd).trans ((bifF (by rw [decide_eq_true hl]; rfl)).trans (bifT hK))]
       exact bifT hK
     · refine (bifF hK).trans ?_
       rw [eachS_run _ hd hl hK]
       have hr := tk_run c s (ivJn [stK s]) hl (smS_len hm) _ (Nat.le_refl _)
       refine obB hr ?_
       cases hb : buildN (eachC c.2.1 s.2.2.2.2 fun _ _ x => setC x (ckTick (x.d, x.p))) c.2.1.length with
       | none => rfl
       | some P => exact obB (sub_vCe P) (unSt P (ivAdd (ivJn [stK s]) (ivMk 1 1)) false)
   · rw [show eachS c s _ = deadS from (bifF hd).trans (bifT (by rw [decide_eq_false hl]; rfl))]
     exact bifT (by rw [lnE, decide_eq_false hl]; rfl)
end
end Su
end
section
namespace Su
open Go Fly
set_option linter.unusedVariables false
noncomputable section
abbrev sInp_l1_S := (Int × ((List Su.Cc) × ((List Su.T) × ((List Su.T) × ((List Su.T) × ((List Su.T) × (Int × (Bool × (Bool × (Int × (Int × ((List Su.Ce) × (Int × ((List Su.Cc) × ((List Su.T) × ((List Su.T) × ((List Su.T) × ((List Su.T) × (Int × ((List Su.Ce) × (Int × (Int × ((List Su.T) × (Bool × (Bool × (Int × (Int × (Nat × ((List Su.T) × (Bool × (Bool × (Int × (Int × (Nat × Unit))))))))))))))))))))))))))))))))))
def sInp_l1 : sInp_l1_S → Option (sInp_l1_S ⊕ (Lp sInp_l1_S (Bool × (Bool × (Int × (Int × (List Su.Ce))))))) := fun p0 => (bif (decide ((p0.2.2.2.2.2.2.2.2.2.2.2.2.2.2.2.2.2.2.2.2.2.1 < p0.2.2.2.2.2.2.2.2.2.2.2.2.2.2.2.2.2.2.2.2.1))) then
 ((Su.idx p0.2.2.2.2.2.2.2.2.2.2.2.2.2.2.2.2.2.2.2.1 p0.2.2.2.2.2.2.2.2.2.2.2.2.2.2.2.2.2.2.2.2.2.1)).bind fun x1 =>
 ((Su.idx p0.2.2.2.2.2.2.2.2.2.2.2.2.2.1 p0.2.2.2.2.2.2.2.2.2.2.2.2.2.2.2.2.2.2.2.2.2.1)).bind fun x2 =>
 ((Su.idx p0.2.1 p0.2.2.2.2.2.2.2.2.2.2.2.2.2.2.2.2.2.2.2.2.2.1)).bind fun x3 =>
 (bif (!(Su.Cc.input x3)) then
 (bif (Su.noneC (Su.bareC x1 (Su.Cc.type x2)) (Su.Cc.type x2)) then
 some (.inr (.ret (true, (false, ((0 : Int), ((0 : Int), []))))))
 else
  (bif ((true && (Nat.beq p0.2.2.2.2.2.2.2.2.2.2.2.2.2.2.2.2.2.2.2.2.2.2.2.2.2.2.2.2.2.2.2.2.2.1 (List.length p0.2.2.2.2.2.2.2.2.2.2.2.2.2.2.2.2.2.2.2.2.2.2.2.2.2.2.2.2.1))) && (Nat.ble ((List.length p0.2.2.2.2.2.2.2.2.2.2.2.2.2.2.2.2.2.2.2.2.2.2.2.2.2.2.2.2.1) + (List.length [(Su.view 14 (Su.bareC x1 (Su.Cc.type x2)))])) 549755813888)) then
  some (.inl (p0.1, (p0.2.1, (p0.2.2.1, (p0.2.2.2.1, (p0.2.2.2.2.1, (p0.2.2.2.2.2.1, (p0.2.2.2.2.2.2.1, (p0.2.2.2.2.2.2.2.1, (p0.2.2.2.2.2.2.2.2.1, (p0.2.2.2.2.2.2.2.2.2.1, (p0.2.2.2.2.2.2.2.2.2.2.1, (p0.2.2.2.2.2.2.2.2.2.2.2.1, (p0.2.2.2.2.2.2.2.2.2.2.2.2.1, (p0.2.2.2.2.2.2.2.2.2.2.2.2.2.1, (p0.2.2.2.2.2.2.2.2.2.2.2.2.2.2.1, (p0.2.2.2.2.2.2.2.2.2.2.2.2.2.2.2.1, (p0.2.2.2.2.2.2.2.2.2.2.2.2.2.2.2.2.1, (p0.2.2.2.2.2.2.2.2.2.2.2.2.2.2.2.2.2.1, (p0.2.2.2.2.2.2.2.2.2.2.2.2.2.2.2.2.2.2.1, (p0.2.2.2.2.2.2.2.2.2.2.2.2.2.2.2.2.2.2.2.1, (p0.2.2.2.2.2.2.2.2.2.2.2.2.2.2.2.2.2.2.2.2.1, ((Go.IntKind.wrap .i64 (p0.2.2.2.2.2.2.2.2.2.2.2.2.2.2.2.2.2.2.2.2.2.1 + 1)), (p0.2.2.2.2.2.2.2.2.2.2.2.2.2.2.2.2.2.2.2.2.2.2.1, (p0.2.2.2.2.2.2.2.2.2.2.2.2.2.2.2.2.2.2.2.2.2.2.2.1, (p0.2.2.2.2.2.2.2.2.2.2.2.2.2.2.2.2.2.2.2.2.2.2.2.2.1, (p0.2.2.2.2.2.2.2.2.2.2.2.2.2.2.2.2.2.2.2.2.2.2.2.2.2.1, (p0.2.2.2.2.2.2.2.2.2.2.2.2.2.2.2.2.2.2.2.2.2.2.2.2.2.2.1, (p0.2.2.2.2.2.2.2.2.2.2.2.2.2.2.2.2.2.2.2.2.2.2.2.2.2.2.2.1, ((p0.2.2.2.2.2.2.2.2.2.2.2.2.2.2.2.2.2.2.2.2.2.2.2.2.2.2.2.2.1 ++ [(Su.view 14 (Su.bareC x1 (Su.Cc.type x2)))]), (p0.2.2.2.2.2.2.2.2.2.2.2.2.2.2.2.2.2.2.2.2.2.2.2.2.2.2.2.2.2.1, (p0.2.2.2.2.2.2.2.2.2.2.2.2.2.2.2.2.2.2.2.2.2.2.2.2.2.2.2.2.2.2.1, (p0.2.2.2.2.2.2.2.2.2.2.2.2.2.2.2.2.2.2.2.2.2.2.2.2.2.2.2.2.2.2.2.1, (p0.2.2.2.2.2.2.2.2.2.2.2.2.2.2.2.2.2.2.2.2.2.2.2.2.2.2.2.2.2.2.2.2.1, ((List.length (p0.2.2.2.2.2.2.2.2.2.2.2.2.2.2.2.2.2.2.2.2.2.2.2.2.2.2.2.2.1 ++ [(Su.view 14 (Su.bareC x1 (Su.Cc.type x2)))])), ())))))))))))))))))))))))))))))))))))
 else
  none))
 else
  (bif (Su.noneC (Su.bareC (Su.Ce.mk true true (Su.ivMk (Go.IntKind.wrap .i64 (Su.Cc.fr x3)) (Go.IntKind.wrap .i64 (Su.Cc.to x3))) (Su.ckOf (Su.ivMk (Go.IntKind.wrap .i64 (Su.Cc.fr x3)) (Go.IntKind.wrap .i64 (Su.Cc.to x3))) (p0.2.2.2.2.2.2.2.2.1, (p0.2.2.2.2.2.2.2.2.2.1, p0.2.2.2.2.2.2.2.2.2.2.1))).1 (Su.ckOf (Su.ivMk (Go.IntKind.wrap .i64 (Su.Cc.fr x3)) (Go.IntKind.wrap .i64 (Su.Cc.to x3))) (p0.2.2.2.2.2.2.2.2.1, (p0.2.2.2.2.2.2.2.2.2.1, p0.2.2.2.2.2.2.2.2.2.2.1))).2 (Su.spMk (Su.Cc.lo x3) (Su.Cc.hi x3)) (0 : Int) (true, ((0 : Int), ([], (0 : Int))))) (Su.Cc.type x2)) (Su.Cc.type x2)) then
  some (.inr (.ret (true, (false, ((0 : Int), ((0 : Int), []))))))
 else
  (bif ((true && (Nat.beq p0.2.2.2.2.2.2.2.2.2.2.2.2.2.2.2.2.2.2.2.2.2.2.2.2.2.2.2.2.2.2.2.2.2.1 (List.length p0.2.2.2.2.2.2.2.2.2.2.2.2.2.2.2.2.2.2.2.2.2.2.2.2.2.2.2.2.1))) && (Nat.ble ((List.length p0.2.2.2.2.2.2.2.2.2.2.2.2.2.2.2.2.2.2.2.2.2.2.2.2.2.2.2.2.1) + (List.length [(Su.view 14 (Su.bareC (Su.Ce.mk true true (Su.ivMk (Go.IntKind.wrap .i64 (Su.Cc.fr x3)) (Go.IntKind.wrap .i64 (Su.Cc.to x3))) (Su.ckOf (Su.ivMk (Go.IntKind.wrap .i64 (Su.Cc.fr x3)) (Go.IntKind.wrap .i64 (Su.Cc.to x3))) (p0.2.2.2.2.2.2.2.2.1, (p0.2.2.2.2.2.2.2.2.2.1, p0.2.2.2.2.2.2.2.2.2.2.1))).1 (Su.ckOf (Su.ivMk (Go.IntKind.wrap .i64 (Su.Cc.fr x3)) (Go.IntKind.wrap .i64 (Su.Cc.to x3))) (p0.2.2.2.2.2.2.2.2.1, (p0.2.2.2.2.2.2.2.2.2.1, p0.2.2.2.2.2.2.2.2.2.2.1))).2 (Su.spMk (Su.Cc.lo x3) (Su.Cc.hi x3)) (0 : Int) (true, ((0 : Int), ([], (0 : Int))))) (Su.Cc.type x2)))])) 549755813888)) then
  some (.inl (p0.1, (p0.2.1, (p0.2.2.1, (p0.2.2.2.1, (p0.2.2.2.2.1, (p0.2.2.2.2.2.1, (p0.2.2.2.2.2.2.1, (p0.2.2.2.2.2.2.2.1, (p0.2.2.2.2.2.2.2.2.1, (p0.2.2.2.2.2.2.2.2.2.1, (p0.2.2.2.2.2.2.2.2.2.2.1, (p0.2.2.2.2.2.2.2.2.2.2.2.1, (p0.2.2.2.2.2.2.2.2.2.2.2.2.1, (p0.2.2.2.2.2.2.2.2.2.2.2.2.2.1, (p0.2.2.2.2.2.2.2.2.2.2.2.2.2.2.1, (p0.2.2.2.2.2.2.2.2.2.2.2.2.2.2.2.1, (p0.2.2.2.2.2.2.2.2.2.2.2.2.2.2.2.2.1, (p0.2.2.2.2.2.2.2.2.2.2.2.2.2.2.2.2.2.1, (p0.2.2.2.2.2.2.2.2.2.2.2.2.2.2.2.2.2.2.1, (p0.2.2.2.2.2.2.2.2.2.2.2.2.2.2.2.2.2.2.2.1, (p0.2.2.2.2.2.2.2.2.2.2.2.2.2.2.2.2.2.2.2.2.1, ((Go.IntKind.wrap .i64 (p0.2.2.2.2.2.2.2.2.2.2.2.2.2.2.2.2.2.2.2.2.2.1 + 1)), (p0.2.2.2.2.2.2.2.2.2.2.2.2.2.2.2.2.2.2.2.2.2.2.1, (p0.2.2.2.2.2.2.2.2.2.2.2.2.2.2.2.2.2.2.2.2.2.2.2.1, (p0.2.2.2.2.2.2.2.2.2.2.2.2.2.2.2.2.2.2.2.2.2.2.2.2.1, (p0.2.2.2.2.2.2.2.2.2.2.2.2.2.2.2.2.2.2.2.2.2.2.2.2.2.1, (p0.2.2.2.2.2.2.2.2.2.2.2.2.2.2.2.2.2.2.2.2.2.2.2.2.2.2.1, (p0.2.2.2.2.2.2.2.2.2.2.2.2.2.2.2.2.2.2.2.2.2.2.2.2.2.2.2.1, ((p0.2.2.2.2.2.2.2.2.2.2.2.2.2.2.2.2.2.2.2.2.2.2.2.2.2.2.2.2.1 ++ [(Su.view 14 (Su.bareC (Su.Ce.mk true true (Su.ivMk (Go.IntKind.wrap .i64 (Su.Cc.fr x3)) (Go.IntKind.wrap .i64 (Su.Cc.to x3))) (Su.ckOf (Su.ivMk (Go.IntKind.wrap .i64 (Su.Cc.fr x3)) (Go.IntKind.wrap .i64 (Su.Cc.to x3))) (p0.2.2.2.2.2.2.2.2.1, (p0.2.2.2.2.2.2.2.2.2.1, p0.2.2.2.2.2.2.2.2.2.2.1))).1 (Su.ckOf (Su.ivMk (Go.IntKind.wrap .i64 (Su.Cc.fr x3)) (Go.IntKind.wrap .i64 (Su.Cc.to x3))) (p0.2.2.2.2.2.2.2.2.1, (p0.2.2.2.2.2.2.2.2.2.1, p0.2.2.2.2.2.2.2.2.2.2.1))).2 (Su.spMk (Su.Cc.lo x3) (Su.Cc.hi x3)) (0 : Int) (true, ((0 : Int), ([], (0 : Int))))) (Su.Cc.type x2)))]), (p0.2.2.2.2.2.2.2.2.2.2.2.2.2.2.2.2.2.2.2.2.2.2.2.2.2.2.2.2.2.1, (p0.2.2.2.2.2.2.2.2.2.2.2.2.2.2.2.2.2.2.2.2.2.2.2.2.2.2.2.2.2.2.1, (p0.2.2.2.2.2.2.2.2.2.2.2.2.2.2.2.2.2.2.2.2.2.2.2.2.2.2.2.2.2.2.2.1, (p0.2.2.2.2.2.2.2.2.2.2.2.2.2.2.2.2.2.2.2.2.2.2.2.2.2.2.2.2.2.2.2.2.1, ((List.length (p0.2.2.2.2.2.2.2.2.2.2.2.2.2.2.2.2.2.2.2.2.2.2.2.2.2.2.2.2.1 ++ [(Su.view 14 (Su.bareC (Su.Ce.mk true true (Su.ivMk (Go.IntKind.wrap .i64 (Su.Cc.fr x3)) (Go.IntKind.wrap .i64 (Su.Cc.to x3))) (Su.ckOf (Su.ivMk (Go.IntKind.wrap .i64 (Su.Cc.fr x3)) (Go.IntKind.wrap .i64 (Su.Cc.to x3))) (p0.2.2.2.2.2.2.2.2.1, (p0.2.2.2.2.2.2.2.2.2.1, p0.2.2.2.2.2.2.2.2.2.2.1))).1 (Su.ckOf (Su.ivMk (Go.IntKind.wrap .i64 (Su.Cc.fr x3)) (Go.IntKind.wrap .i64 (Su.Cc.to x3))) (p0.2.2.2.2.2.2.2.2.1, (p0.2.2.2.2.2.2.2.2.2.1, p0.2.2.2.2.2.2.2.2.2.2.1))).2 (Su.spMk (Su.Cc.lo x3) (Su.Cc.hi x3)) (0 : Int) (true, ((0 : Int), ([], (0 : Int))))) (Su.Cc.type x2)))])), ())))))))))))))))))))))))))))))))))))
 else
  none)))
 else
  some (.inr (.exit 0 (p0.1, (p0.2.1, (p0.2.2.1, (p0.2.2.2.1, (p0.2.2.2.2.1, (p0.2.2.2.2.2.1, (p0.2.2.2.2.2.2.1, (p0.2.2.2.2.2.2.2.1, (p0.2.2.2.2.2.2.2.2.1, (p0.2.2.2.2.2.2.2.2.2.1, (p0.2.2.2.2.2.2.2.2.2.2.1, (p0.2.2.2.2.2.2.2.2.2.2.2.1, (p0.2.2.2.2.2.2.2.2.2.2.2.2.1, (p0.2.2.2.2.2.2.2.2.2.2.2.2.2.1, (p0.2.2.2.2.2.2.2.2.2.2.2.2.2.2.1, (p0.2.2.2.2.2.2.2.2.2.2.2.2.2.2.2.1, (p0.2.2.2.2.2.2.2.2.2.2.2.2.2.2.2.2.1, (p0.2.2.2.2.2.2.2.2.2.2.2.2.2.2.2.2.2.1, (p0.2.2.2.2.2.2.2.2.2.2.2.2.2.2.2.2.2.2.1, (p0.2.2.2.2.2.2.2.2.2.2.2.2.2.2.2.2.2.2.2.1, (p0.2.2.2.2.2.2.2.2.2.2.2.2.2.2.2.2.2.2.2.2.1, (p0.2.2.2.2.2.2.2.2.2.2.2.2.2.2.2.2.2.2.2.2.2.1, (p0.2.2.2.2.2.2.2.2.2.2.2.2.2.2.2.2.2.2.2.2.2.2.1, (p0.2.2.2.2.2.2.2.2.2.2.2.2.2.2.2.2.2.2.2.2.2.2.2.1, (p0.2.2.2.2.2.2.2.2.2.2.2.2.2.2.2.2.2.2.2.2.2.2.2.2.1, (p0.2.2.2.2.2.2.2.2.2.2.2.2.2.2.2.2.2.2.2.2.2.2.2.2.2.1, (p0.2.2.2.2.2.2.2.2.2.2.2.2.2.2.2.2.2.2.2.2.2.2.2.2.2.2.1, (p0.2.2.2.2.2.2.2.2.2.2.2.2.2.2.2.2.2.2.2.2.2.2.2.2.2.2.2.1, (p0.2.2.2.2.2.2.2.2.2.2.2.2.2.2.2.2.2.2.2.2.2.2.2.2.2.2.2.2.1, (p0.2.2.2.2.2.2.2.2.2.2.2.2.2.2.2.2.2.2.2.2.2.2.2.2.2.2.2.2.2.1, (p0.2.2.2.2.2.2.2.2.2.2.2.2.2.2.2.2.2.2.2.2.2.2.2.2.2.2.2.2.2.2.1, (p0.2.2.2.2.2.2.2.2.2.2.2.2.2.2.2.2.2.2.2.2.2.2.2.2.2.2.2.2.2.2.2.1, (p0.2.2.2.2.2.2.2.2.2.2.2.2.2.2.2.2.2.2.2.2.2.2.2.2.2.2.2.2.2.2.2.2.1, (p0.2.2.2.2.2.2.2.2.2.2.2.2.2.2.2.2.2.2.2.2.2.2.2.2.2.2.2.2.2.2.2.2.2.1, ())))))))))))))))))))))))))))))))))))))
def sInp  (fu : Nat) (c : (Int × ((List Su.Cc) × ((List Su.T) × ((List Su.T) × ((List Su.T) × ((List Su.T) × Int))))))) (s : (Bool × (Bool × (Int × (Int × (List Su.Ce)))))) : Option (Bool × (Bool × (Int × (Int × (List Su.Ce))))) :=
 (bif s.1 then
 some (true, (false, ((0 : Int), ((0 : Int), []))))
 else
  (bif (!(decide (((((List.length s.2.2.2.2) : Nat) : Int) = (((List.length c.2.1) : Nat) : Int))))) then
  some (true, (false, ((0 : Int), ((0 : Int), []))))
 else
  (bif (Su.ivJn [(s.2.1, (s.2.2.1, s.2.2.2.1))]).1 then
  some (true, (false, ((0 : Int), ((0 : Int), []))))
 else
  (itP fu (sInp_l1) (c.1, (c.2.1, (c.2.2.1, (c.2.2.2.1, (c.2.2.2.2.1, (c.2.2.2.2.2.1, (c.2.2.2.2.2.2, (s.1, (s.2.1, (s.2.2.1, (s.2.2.2.1, (s.2.2.2.2, (c.1, (c.2.1, (c.2.2.1, (c.2.2.2.1, (c.2.2.2.2.1, (c.2.2.2.2.2.1, (c.2.2.2.2.2.2, (s.2.2.2.2, ((((List.length s.2.2.2.2) : Nat) : Int), ((0 : Int), ([], (false, (false, ((0 : Int), ((0 : Int), (0, ([], (false, ((Su.ivJn [(s.2.1, (s.2.2.1, s.2.2.2.1))]).1, ((Su.ivJn [(s.2.1, (s.2.2.1, s.2.2.2.1))]).2.1, ((Su.ivJn [(s.2.1, (s.2.2.1, s.2.2.2.1))]).2.2, (0, ()))))))))))))))))))))))))))))))))))).bind fun x4 =>
  (match x4 with
 | .exit i5 p6 => (bif (Nat.beq i5 0) then
  ((Su.sub p6.2.2.2.2.2.2.2.2.2.2.2.2.2.2.2.2.2.2.2.2.2.2.2.2.2.2.2.2.1 0 p6.2.2.2.2.2.2.2.2.2.2.2.2.2.2.2.2.2.2.2.2.2.2.2.2.2.2.2.2.2.2.2.2.2.1)).bind fun x7 =>
  (((((Su.unR (Su.rCe) x7)).bind fun x8 =>
  some (p6.2.2.2.2.2.2.2.2.2.2.2.2.2.2.2.2.2.2.2.2.2.2.2.2.2.2.2.2.2.2.2.2.1, x8)).bind fun x9 =>
  some (p6.2.2.2.2.2.2.2.2.2.2.2.2.2.2.2.2.2.2.2.2.2.2.2.2.2.2.2.2.2.2.2.1, x9)).bind fun x10 =>
  some (p6.2.2.2.2.2.2.2.2.2.2.2.2.2.2.2.2.2.2.2.2.2.2.2.2.2.2.2.2.2.2.1, x10)).bind fun x11 =>
  some (p6.2.2.2.2.2.2.2.2.2.2.2.2.2.2.2.2.2.2.2.2.2.2.2.2.2.2.2.2.2.1, x11)
 else
  none)
 | .ret o12 => some o12))))
abbrev CapS := Int × (List Su.Cc × (List Su.T × (List Su.T × (List Su.T × (List Su.T × (Int × (Bool × (Bool × (Int × (Int × (List Su.Ce × (Int × (List Su.Cc × (List Su.T × (List Su.T × (List Su.T × (List Su.T × (Int × (List Su.Ce × (Int × (Int × (List Su.T × (Bool × (Bool × (Int × (Int × (Nat × (List Su.T × (Bool × (Bool × (Int × (Int × (Nat × Unit)))))))))))))))))))))))))))))))))
def cpMk (c : CoD) (s : StD) (K : Iv) (i : Int) (P : List Su.Ce) : CapS :=
 (c.1, (c.2.1, (c.2.2.1, (c.2.2.2.1, (c.2.2.2.2.1, (c.2.2.2.2.2.1, (c.2.2.2.2.2.2, (s.1, (s.2.1, (s.2.2.1, (s.2.2.2.1, (s.2.2.2.2, (c.1, (c.2.1, (c.2.2.1, (c.2.2.2.1, (c.2.2.2.2.1, (c.2.2.2.2.2.1, (c.2.2.2.2.2.2, (s.2.2.2.2, (((s.2.2.2.2.length : Nat) : Int), (i, ([], (false, (false, (0, (0, (0, (P.map vCe, (false, (K.1, (K.2.1, (K.2.2, (P.length, ()))))))))))))))))))))))))))))))))))
def inpIv (d : Su.Cc) : Iv := ivMk (IntKind.i64.wrap d.fr) (IntKind.i64.wrap d.to)
def inpF (s : StD) (_ : Nat) (d : Su.Cc) (x : Su.Ce) : Su.Ce :=
 bif !d.input then x else ⟨true, true, inpIv d, (ckOf (inpIv d) (stK s)).1, (ckOf (inpIv d) (stK s)).2, spMk d.lo d.hi, 0, (true, (0, ([], 0)))⟩
theorem inp_run (c : CoD) (s : StD) (K : Iv) (hl : s.2.2.2.2.length = c.2.1.length) (hs : s.2.2.2.2.length ≤ 1000000) :
 Runs (c.2.1.length + 1) sInp_l1 (cpMk c s K ((0 : Nat) : Int) []) (endB (.ret deadS) (fun P => .exit 0 (cpMk c s K (c.2.1.length : Int) P)) (buildN (eachC c.2.1 s.2.2.2.2 (inpF s)) c.2.1.length)) := by
 have hmx : s.2.2.2.2.length ≤ maxLen := by rw [maxLen_eq]; omega
 refine runs_build (mk := fun i P => cpMk c s K (i : Int) P) ?_ ?_ ?_
 · intro i P x hi hP ho
   have i1 : i < s.2.2.2.2.length := by omega
   unfold eachC at ho
   rw [List.getElem?_eq_getElem hi, List.getElem?_eq_getElem i1] at ho
   simp only [] at ho
   have hb : Nat.ble (P.length + 1) 549755813888 = true := Nat.ble_eq_true_of_le (by omega)
   unfold cpMk
   simp only [sInp_l1, ltN, decide_eq_true i1, cond_true, ixl i1, ixl hi, Option.bind_some]
   generalize c.2.1[i] = d at *
   generalize s.2.2.2.2[i] = x0 at *
   cases e1 : d.input with
   | false =>
    have hf : (inpF s) i d x0 = x0 := by unfold inpF; rw [e1]; rfl
    rw [hf] at ho
    refine (bifT rfl).trans ?_
    rcases Bool.eq_false_or_eq_true (noneC (bareC (x0) d.type) d.type) with hn | hn
    · exact absurd ((bifT hn).symm.trans ho) (by simp)
    · have := soi ((bifF hn).symm.trans ho); subst this
      refine (bifF hn).trans ?_
      simp only [List.length_map, List.length_cons, List.length_nil, Nat.zero_add, nbeq, hb, Bool.and_self, cond_true, app_vCe, w1 i1 hmx]
      all_goals rfl
   | true =>
    have hf : (inpF s) i d x0 = ⟨true, true, inpIv d, (ckOf (inpIv d) (stK s)).1, (ckOf (inpIv d) (stK s)).2, spMk d.lo d.hi, 0, (true, (0, ([], 0)))⟩ := by unfold inpF; rw [e1]; rfl
    rw [hf] at ho
    refine (bifF rfl).trans ?_
    rcases Bool.eq_false_or_eq_true (noneC (bareC (⟨true, true, inpIv d, (ckOf (inpIv d) (stK s)).1, (ckOf (inpIv d) (stK s)).2, spMk d.lo d.hi, 0, (true, (0, ([], 0)))⟩) d.type) d.type) with hn | hn
    · exact absurd ((bifT hn).symm.trans ho) (by simp)
    · have := soi ((bifF hn).symm.trans ho); subst this
      refine (bifF hn).trans ?_
      simp only [List.length_map, List.length_cons, List.length_nil, Nat.zero_add, nbeq, hb, Bool.and_self, cond_true, app_vCe, w1 i1 hmx]
      all_goals rfl
 · intro i P hi hP ho
   have i1 : i < s.2.2.2.2.length := by omega
   unfold eachC at ho
   rw [List.getElem?_eq_getElem hi, List.getElem?_eq_getElem i1] at ho
   simp only [] at ho
   have hb : Nat.ble (P.length + 1) 549755813888 = true := Nat.ble_eq_true_of_le (by omega)
   unfold cpMk
   simp only [sInp_l1, ltN, decide_eq_true i1, cond_true, ixl i1, ixl hi, Option.bind_some]
   generalize c.2.1[i] = d at *
   generalize s.2.2.2.2[i] = x0 at *
   cases e1 : d.input with
   | false =>
    have hf : (inpF s) i d x0 = x0 := by unfold inpF; rw [e1]; rfl
    rw [hf] at ho
    refine (bifT rfl).trans ?_
    rcases Bool.eq_false_or_eq_true (noneC (bareC (x0) d.type) d.type) with hn | hn
    · exact (bifT hn).trans rfl
    · exact absurd ((bifF hn).symm.trans ho) (by simp)
   | true =>
    have hf : (inpF s) i d x0 = ⟨true, true, inpIv d, (ckOf (inpIv d) (stK s)).1, (ckOf (inpIv d) (stK s)).2, spMk d.lo d.hi, 0, (true, (0, ([], 0)))⟩ := by unfold inpF; rw [e1]; rfl
    rw [hf] at ho
    refine (bifF rfl).trans ?_
    rcases Bool.eq_false_or_eq_true (noneC (bareC (⟨true, true, inpIv d, (ckOf (inpIv d) (stK s)).1, (ckOf (inpIv d) (stK s)).2, spMk d.lo d.hi, 0, (true, (0, ([], 0)))⟩) d.type) d.type) with hn | hn
    · exact (bifT hn).trans rfl
    · exact absurd ((bifF hn).symm.trans ho) (by simp)
 · intro P hP
   unfold cpMk
   simp only [sInp_l1, ltN, hl, decide_eq_false (Nat.lt_irrefl _), cond_false]
def inpS (c : CoD) (s : StD) : StD := eachS c s (inpF s)
def sInp_s (p : CoD × StD) : Option StD := bif smS p.2 then some (inpS p.1 p.2) else none
theorem sInp_ok (p : CoD × StD) (y : StD) (hg : (dc cCo (d1 cSt)).good p) (h : sInp_s p = some y) : ∃ n, sInp n p.1 p.2 = some y := by
 obtain ⟨c, s⟩ := p
 obtain ⟨hm, h⟩ := bif_some h
 have := soi h; subst this
 have hm : smS s = true := hm
 refine ⟨c.2.1.length + 1, ?_⟩
 show sInp (c.2.1.length + 1) c s = some (inpS c s)
 unfold sInp inpS
 rcases Bool.eq_false_or_eq_true s.1 with hd | hd
 · rw [show eachS c s _ = deadS from bifT hd]; exact bifT hd
 · refine (bifF hd).trans ?_
   by_cases hl : s.2.2.2.2.length = c.2.1.length
   · refine (bifF (by rw [lnE, decide_eq_true hl]; rfl)).trans ?_
     rcases Bool.eq_false_or_eq_true (ivJn [stK s]).1 with hK | hK
     · rw [show eachS c s _ = deadS from (bifF hd).trans ((bifF (by rw [decide_eq_true hl]; rfl)).trans (bifT hK))]
       exact bifT hK
     · refine (bifF hK).trans ?_
       rw [eachS_run _ hd hl hK]
       have hr := inp_run c s (ivJn [stK s]) hl (smS_len hm) _ (Nat.le_refl _)
       refine obB hr ?_
       cases hb : buildN (eachC c.2.1 s.2.2.2.2 (inpF s)) c.2.1.length with
       | none => rfl
       | some P => exact obB (sub_vCe P) (unSt P (ivJn [stK s]) false)
   · rw [show eachS c s _ = deadS from (bifF hd).trans (bifT (by rw [decide_eq_false hl]; rfl))]
     exact bifT (by rw [lnE, decide_eq_false hl]; rfl)
end
end Su
end
