/-
  Bits and rounding, in plain Lean. No condition.
-/
import Derived.Test.YtfckjjffdfkelaaGreatSuSd
import Derived.Test.YtfckjjffdfkelaaGreatNC15
import Derived.Test.YtfckjjffdfkelaaGreatNB10
set_option maxRecDepth 10000
section
namespace Su
open Go Fly
set_option linter.unusedVariables false
abbrev Iv := Bool × (Int × Int)
def noI : Iv := (true, (0, 0))
def ivN (s : Iv) : Iv :=
 bif s.1 || (decide (s.2.2 < s.2.1) || (decide (1099511627776 ≤ s.2.1) || decide (s.2.2 ≤ -1099511627776))) then noI else (false, (max s.2.1 (-1099511627776), min s.2.2 1099511627776))
def ivMk (lo hi : Int) : Iv := ivN (false, (lo, hi))
def ivHas (s : Iv) (n : Int) : Bool :=
 !(ivN s).1 && ((decide ((ivN s).2.1 = -1099511627776) || decide ((ivN s).2.1 ≤ n)) && (decide ((ivN s).2.2 = 1099511627776) || decide (n ≤ (ivN s).2.2)))
def ivIn (a b : Iv) : Bool := (ivN a).1 || (!(ivN b).1 && (decide ((ivN b).2.1 ≤ (ivN a).2.1) && decide ((ivN a).2.2 ≤ (ivN b).2.2)))
def ivJ2 (j s : Iv) : Iv := bif (ivN s).1 then j else bif j.1 then ivN s else (false, (min j.2.1 (ivN s).2.1, max j.2.2 (ivN s).2.2))
def ivJn (l : List Iv) : Iv := l.foldl ivJ2 noI
def ivMt (a b : Iv) : Iv := bif (ivN a).1 || (ivN b).1 then noI else ivMk (max (ivN a).2.1 (ivN b).2.1) (min (ivN a).2.2 (ivN b).2.2)
def ivFar (n : Int) : Bool := decide (1099511627776 ≤ n) || decide (n ≤ -1099511627776)
def ivClip (n : Int) : Int := max (min n 1099511627776) (-1099511627776)
def ivSum (x y : Int) : Int := bif ivFar x then x else bif ivFar y then y else ivClip (x + y)
def ivHull (lo hi : Int) : Iv := (false, (min (ivClip lo) 1099511627775, max (ivClip hi) (-1099511627775)))
def ivNeg (a : Iv) : Iv := bif (ivN a).1 then ivN a else ivMk (-(ivN a).2.2) (-(ivN a).2.1)
def ivAdd (a b : Iv) : Iv := bif (ivN a).1 || (ivN b).1 then noI else ivHull (ivSum (ivN a).2.1 (ivN b).2.1) (ivSum (ivN a).2.2 (ivN b).2.2)
def ivSub (a b : Iv) : Iv := ivAdd a (ivNeg b)
abbrev Ckp := Iv × Iv
def ckN (c : Ckp) : Ckp := bif (ivJn [c.1]).1 || (ivJn [c.2]).1 then (noI, noI) else (ivJn [c.1], ivJn [c.2])
def ckOf (v k : Iv) : Ckp := ckN (ivSub v k, ivAdd v k)
def ckTick (c : Ckp) : Ckp := ckN (ivAdd (ckN c).1 (false, (-1, -1)), ivAdd (ckN c).2 (false, (1, 1)))
def ckMt (a b : Ckp) : Ckp := ckN (ivMt (ckN a).1 (ckN b).1, ivMt (ckN a).2 (ckN b).2)
def ckJn (a b : Ckp) : Ckp := ckN (ivJn [(ckN a).1, (ckN b).1], ivJn [(ckN a).2, (ckN b).2])
def ckRed (v : Iv) (c : Ckp) (k : Iv) : Iv := ivMt (ivMt v (ivAdd (ckN c).1 k)) (ivSub (ckN c).2 k)
def ckIn (a b : Ckp) : Bool := ivIn (ckN a).1 (ckN b).1 && ivIn (ckN a).2 (ckN b).2
def ckHas (c : Ckp) (v k : Int) : Bool := !(decide (min v k < -2199023255552) || decide (2199023255552 < max v k)) && (ivHas (ckN c).1 (v - k) && ivHas (ckN c).2 (v + k))
theorem ivN_cases (s : Iv) : ivN s = noI ∨ (s.1 = false ∧ s.2.1 ≤ s.2.2 ∧ s.2.1 < 1099511627776 ∧ -1099511627776 < s.2.2 ∧ ivN s = (false, (max s.2.1 (-1099511627776), min s.2.2 1099511627776))) := by
 unfold ivN
 cases h : (s.1 || (decide (s.2.2 < s.2.1) || (decide (1099511627776 ≤ s.2.1) || decide (s.2.2 ≤ -1099511627776)))) with
 | true => exact .inl rfl
 | false =>
  simp only [Bool.or_eq_false_iff, decide_eq_false_iff_not] at h
  exact .inr ⟨h.1, by omega, by omega, by omega, rfl⟩
def IvOk (s : Iv) : Prop := s = noI ∨ (s.1 = false ∧ s.2.1 ≤ s.2.2 ∧ -1099511627776 ≤ s.2.1 ∧ s.2.1 < 1099511627776 ∧ -1099511627776 < s.2.2 ∧ s.2.2 ≤ 1099511627776)
theorem ivN_ok (s : Iv) : IvOk (ivN s) := by
 rcases ivN_cases s with h | ⟨_, h1, h2, h3, h⟩
 · rw [h]; exact .inl rfl
 · rw [h]; refine .inr ⟨rfl, ?_, ?_, ?_, ?_, ?_⟩ <;> simp only [] <;> omega
theorem ivN_id {s : Iv} (h : IvOk s) : ivN s = s := by
 obtain ⟨e, lo, hi⟩ := s
 rcases h with h | ⟨h0, h1, h2, h3, h4, h5⟩
 · rw [h]; rfl
 · simp only [] at h0 h1 h2 h3 h4 h5
   subst h0
   unfold ivN
   rw [show (false || (decide (hi < lo) || (decide (1099511627776 ≤ lo) || decide (hi ≤ -1099511627776)))) = false by
    rw [decide_eq_false (by omega), decide_eq_false (by omega), decide_eq_false (by omega)]; rfl]
   show (false, (max lo (-1099511627776), min hi 1099511627776)) = (false, (lo, hi))
   rw [Int.max_eq_left h2, Int.min_eq_left h5]
theorem ivN_idem (s : Iv) : ivN (ivN s) = ivN s := ivN_id (ivN_ok s)
theorem ivJ1 (a : Iv) : ivJn [a] = ivN a := by
 show ivJ2 noI a = _
 unfold ivJ2
 rcases ivN_cases a with h | ⟨_, _, _, _, h⟩ <;> rw [h] <;> rfl
theorem ivOk_false {s : Iv} (h : IvOk s) (h' : s.1 = false) : s.2.1 ≤ s.2.2 ∧ -1099511627776 ≤ s.2.1 ∧ s.2.1 < 1099511627776 ∧ -1099511627776 < s.2.2 ∧ s.2.2 ≤ 1099511627776 := by
 rcases h with h | h
 · rw [h] at h'; cases h'
 · exact h.2
theorem ckN_val (c : Ckp) : ckN c = bif (ivN c.1).1 || (ivN c.2).1 then (noI, noI) else (ivN c.1, ivN c.2) := by
 unfold ckN; rw [ivJ1, ivJ1]
theorem ckN_idem (c : Ckp) : ckN (ckN c) = ckN c := by
 rw [ckN_val c]
 cases h : ((ivN c.1).1 || (ivN c.2).1) with
 | true => rfl
 | false =>
  rw [cond_false, ckN_val]
  show (bif (ivN (ivN c.1)).1 || (ivN (ivN c.2)).1 then _ else (ivN (ivN c.1), ivN (ivN c.2))) = _
  rw [ivN_idem, ivN_idem, h]; rfl
theorem ckN_1 (c : Ckp) : ivN (ckN c).1 = (ckN c).1 := by
 rw [ckN_val]
 cases (ivN c.1).1 || (ivN c.2).1 with
 | true => rfl
 | false => exact ivN_idem _
theorem ckN_2 (c : Ckp) : ivN (ckN c).2 = (ckN c).2 := by
 rw [ckN_val]
 cases (ivN c.1).1 || (ivN c.2).1 with
 | true => rfl
 | false => exact ivN_idem _
end Su
end
section
namespace Su
open Go Fly
set_option linter.unusedVariables false
noncomputable section
def iNorm  (s : (Bool × (Int × Int))) : Option (Bool × (Int × Int)) :=
 (bif s.1 then
 some (true, ((0 : Int), (0 : Int)))
 else
  (bif (decide ((s.2.2 < s.2.1))) then
  some (true, ((0 : Int), (0 : Int)))
 else
  (bif (decide ((1099511627776 ≤ s.2.1))) then
  some (true, ((0 : Int), (0 : Int)))
 else
  (bif (decide ((s.2.2 ≤ (-1099511627776)))) then
  some (true, ((0 : Int), (0 : Int)))
 else
  some (false, ((max s.2.1 (-1099511627776)), (min s.2.2 1099511627776)))))))
def iNorm_s (s : Iv) : Option Iv := some (ivN s)
theorem iNorm_ok (s y : Iv) (hg : (d1 cIn).good s) (h : iNorm_s s = some y) : iNorm s = some y := by
 obtain ⟨e, lo, hi⟩ := s
 have := soi h; subst this
 unfold iNorm ivN
 simp only []
 cases e with
 | true => rfl
 | false =>
  cases decide (hi < lo) with
  | true => rfl
  | false =>
   cases decide (1099511627776 ≤ lo) with
   | true => rfl
   | false => cases decide (hi ≤ -1099511627776) <;> rfl
end
end Su
end
section
namespace Su
open Go Fly
set_option linter.unusedVariables false
noncomputable section
def iMake  (lo : Int) (hi : Int) : Option (Bool × (Int × Int)) :=
 some ((Su.ivN (false, (lo, hi))).1, ((Su.ivN (false, (lo, hi))).2.1, (Su.ivN (false, (lo, hi))).2.2))
def iHas  (s : (Bool × (Int × Int))) (n : Int) : Option Bool :=
 (bif (!(Su.ivN (s.1, (s.2.1, s.2.2))).1) then
 (bif (decide (((Su.ivN (s.1, (s.2.1, s.2.2))).2.1 = (-1099511627776)))) then
 (bif (decide (((Su.ivN (s.1, (s.2.1, s.2.2))).2.2 = 1099511627776))) then
 some true
 else
  some (decide ((n ≤ (Su.ivN (s.1, (s.2.1, s.2.2))).2.2))))
 else
  (bif (decide (((Su.ivN (s.1, (s.2.1, s.2.2))).2.1 ≤ n))) then
  (bif (decide (((Su.ivN (s.1, (s.2.1, s.2.2))).2.2 = 1099511627776))) then
  some true
 else
  some (decide ((n ≤ (Su.ivN (s.1, (s.2.1, s.2.2))).2.2))))
 else
  some false))
 else
  some false)
def iIns  (a : (Bool × (Int × Int))) (b : (Bool × (Int × Int))) : Option Bool :=
 (bif (Su.ivN (a.1, (a.2.1, a.2.2))).1 then
 some true
 else
  (bif (!(Su.ivN (b.1, (b.2.1, b.2.2))).1) then
  (bif (decide (((Su.ivN (b.1, (b.2.1, b.2.2))).2.1 ≤ (Su.ivN (a.1, (a.2.1, a.2.2))).2.1))) then
  some (decide (((Su.ivN (a.1, (a.2.1, a.2.2))).2.2 ≤ (Su.ivN (b.1, (b.2.1, b.2.2))).2.2)))
 else
  some false)
 else
  some false))
def iJoin_l1 : ((List (Bool × (Int × Int))) × (Int × (Int × (Bool × (Int × (Int × (Bool × (Int × (Int × Unit))))))))) → Option (((List (Bool × (Int × Int))) × (Int × (Int × (Bool × (Int × (Int × (Bool × (Int × (Int × Unit))))))))) ⊕ ((List (Bool × (Int × Int))) × (Int × (Int × (Bool × (Int × (Int × (Bool × (Int × (Int × Unit)))))))))) := fun p0 => (bif (decide ((p0.2.2.1 < p0.2.1))) then
 ((Su.idx p0.1 p0.2.2.1)).bind fun x1 =>
 (bif (Su.ivN (x1.1, (x1.2.1, x1.2.2))).1 then
 some (.inl (p0.1, (p0.2.1, ((Go.IntKind.wrap .i64 (p0.2.2.1 + 1)), (p0.2.2.2.1, (p0.2.2.2.2.1, (p0.2.2.2.2.2.1, (p0.2.2.2.2.2.2.1, (p0.2.2.2.2.2.2.2.1, (p0.2.2.2.2.2.2.2.2.1, ()))))))))))
 else
  (bif p0.2.2.2.2.2.2.1 then
  some (.inl (p0.1, (p0.2.1, ((Go.IntKind.wrap .i64 (p0.2.2.1 + 1)), (p0.2.2.2.1, (p0.2.2.2.2.1, (p0.2.2.2.2.2.1, ((Su.ivN (x1.1, (x1.2.1, x1.2.2))).1, ((Su.ivN (x1.1, (x1.2.1, x1.2.2))).2.1, ((Su.ivN (x1.1, (x1.2.1, x1.2.2))).2.2, ()))))))))))
 else
  some (.inl (p0.1, (p0.2.1, ((Go.IntKind.wrap .i64 (p0.2.2.1 + 1)), (p0.2.2.2.1, (p0.2.2.2.2.1, (p0.2.2.2.2.2.1, (false, ((min p0.2.2.2.2.2.2.2.1 (Su.ivN (x1.1, (x1.2.1, x1.2.2))).2.1), ((max p0.2.2.2.2.2.2.2.2.1 (Su.ivN (x1.1, (x1.2.1, x1.2.2))).2.2), ()))))))))))))
 else
  some (.inr (p0.1, (p0.2.1, (p0.2.2.1, (p0.2.2.2.1, (p0.2.2.2.2.1, (p0.2.2.2.2.2.1, (p0.2.2.2.2.2.2.1, (p0.2.2.2.2.2.2.2.1, (p0.2.2.2.2.2.2.2.2.1, ())))))))))))
def iJoin  (fu : Nat) (l : (List (Bool × (Int × Int)))) : Option (Bool × (Int × Int)) :=
 (itP fu (iJoin_l1) (l, ((((List.length l) : Nat) : Int), ((0 : Int), (false, ((0 : Int), ((0 : Int), (true, ((0 : Int), ((0 : Int), ())))))))))).bind fun x2 =>
 some (x2.2.2.2.2.2.2.1, (x2.2.2.2.2.2.2.2.1, x2.2.2.2.2.2.2.2.2.1))
def iNeg  (a : (Bool × (Int × Int))) : Option (Bool × (Int × Int)) :=
 (bif (Su.ivN (a.1, (a.2.1, a.2.2))).1 then
 some ((Su.ivN (a.1, (a.2.1, a.2.2))).1, ((Su.ivN (a.1, (a.2.1, a.2.2))).2.1, (Su.ivN (a.1, (a.2.1, a.2.2))).2.2))
 else
  some ((Su.ivN (false, ((Go.IntKind.wrap .i64 (0 - (Su.ivN (a.1, (a.2.1, a.2.2))).2.2)), (Go.IntKind.wrap .i64 (0 - (Su.ivN (a.1, (a.2.1, a.2.2))).2.1))))).1, ((Su.ivN (false, ((Go.IntKind.wrap .i64 (0 - (Su.ivN (a.1, (a.2.1, a.2.2))).2.2)), (Go.IntKind.wrap .i64 (0 - (Su.ivN (a.1, (a.2.1, a.2.2))).2.1))))).2.1, (Su.ivN (false, ((Go.IntKind.wrap .i64 (0 - (Su.ivN (a.1, (a.2.1, a.2.2))).2.2)), (Go.IntKind.wrap .i64 (0 - (Su.ivN (a.1, (a.2.1, a.2.2))).2.1))))).2.2)))
def iMeet  (a : (Bool × (Int × Int))) (b : (Bool × (Int × Int))) : Option (Bool × (Int × Int)) :=
 (bif (Su.ivN (a.1, (a.2.1, a.2.2))).1 then
 some (true, ((0 : Int), (0 : Int)))
 else
  (bif (Su.ivN (b.1, (b.2.1, b.2.2))).1 then
  some (true, ((0 : Int), (0 : Int)))
 else
  some ((Su.ivN (false, ((max (Su.ivN (a.1, (a.2.1, a.2.2))).2.1 (Su.ivN (b.1, (b.2.1, b.2.2))).2.1), (min (Su.ivN (a.1, (a.2.1, a.2.2))).2.2 (Su.ivN (b.1, (b.2.1, b.2.2))).2.2)))).1, ((Su.ivN (false, ((max (Su.ivN (a.1, (a.2.1, a.2.2))).2.1 (Su.ivN (b.1, (b.2.1, b.2.2))).2.1), (min (Su.ivN (a.1, (a.2.1, a.2.2))).2.2 (Su.ivN (b.1, (b.2.1, b.2.2))).2.2)))).2.1, (Su.ivN (false, ((max (Su.ivN (a.1, (a.2.1, a.2.2))).2.1 (Su.ivN (b.1, (b.2.1, b.2.2))).2.1), (min (Su.ivN (a.1, (a.2.1, a.2.2))).2.2 (Su.ivN (b.1, (b.2.1, b.2.2))).2.2)))).2.2))))
def iSum  (x : Int) (y : Int) : Option Int :=
 (bif (decide ((1099511627776 ≤ x))) then
 some x
 else
  (bif (decide ((x ≤ (-1099511627776)))) then
  some x
 else
  (bif (decide ((1099511627776 ≤ y))) then
  some y
 else
  (bif (decide ((y ≤ (-1099511627776)))) then
  some y
 else
  some (max (min (Go.IntKind.wrap .i64 (x + y)) 1099511627776) (-1099511627776))))))
def iHull  (lo : Int) (hi : Int) : Option (Bool × (Int × Int)) :=
 some (false, ((min (max (min lo 1099511627776) (-1099511627776)) 1099511627775), (max (max (min hi 1099511627776) (-1099511627776)) (-1099511627775))))
def iMake_s (p : Int × Int) : Option Iv := some (ivMk p.1 p.2)
theorem iMake_ok (p : Int × Int) (y : Iv) (hg : (dc (cI .i64) (d1 (cI .i64))).good p) (h : iMake_s p = some y) : iMake p.1 p.2 = some y := by
 have := soi h; subst this; rfl
def iHas_s (p : Iv × Int) : Option Bool := some (ivHas p.1 p.2)
theorem iHas_ok (p : Iv × Int) (y : Bool) (hg : (dc cIn (d1 (cI .i64))).good p) (h : iHas_s p = some y) : iHas p.1 p.2 = some y := by
 obtain ⟨⟨e, lo, hi⟩, n⟩ := p
 have := soi h; subst this
 unfold iHas ivHas
 simp only []
 generalize ivN (e, (lo, hi)) = t
 cases t.1 with
 | true => rfl
 | false =>
  cases decide (t.2.1 = -1099511627776) <;> cases decide (t.2.1 ≤ n) <;> cases decide (t.2.2 = 1099511627776) <;> rfl
def iIns_s (p : Iv × Iv) : Option Bool := some (ivIn p.1 p.2)
theorem iIns_ok (p : Iv × Iv) (y : Bool) (hg : (dc cIn (d1 cIn)).good p) (h : iIns_s p = some y) : iIns p.1 p.2 = some y := by
 obtain ⟨⟨e, lo, hi⟩, ⟨e', lo', hi'⟩⟩ := p
 have := soi h; subst this
 unfold iIns ivIn
 simp only []
 generalize ivN (e, (lo, hi)) = t
 generalize ivN (e', (lo', hi')) = t'
 cases t.1 with
 | true => rfl
 | false =>
  cases t'.1 with
  | true => rfl
  | false => cases decide (t'.2.1 ≤ t.2.1) <;> rfl
abbrev IjS := List Iv × (Int × (Int × (Bool × (Int × (Int × (Bool × (Int × (Int × Unit))))))))
def ijMk (l : List Iv) (i : Int) (j : Iv) : IjS := (l, (((l.length : Nat) : Int), (i, (false, (0, (0, (j.1, (j.2.1, (j.2.2, ())))))))))
theorem ij_loop (l : List Iv) (hl : l.length ≤ maxLen) : ∀ (r A : List Iv) (j : Iv), A ++ r = l → Runs (r.length + 1) iJoin_l1 (ijMk l A.length j) (ijMk l l.length (r.foldl ivJ2 j))
 | [], A, j, h => by
  rw [List.append_nil] at h; subst h
  refine Runs.stop ?_
  unfold ijMk
  simp only [iJoin_l1, ltN, decide_eq_false (Nat.lt_irrefl _), cond_false]; rfl
 | x :: r, A, j, h => by
  have hi : A.length < l.length := by rw [← h]; simp
  have hg : idx l (A.length : Int) = some x := by
   rw [idx_nat, ← h, List.getElem?_append_right (by omega), Nat.sub_self]; rfl
  have ih := ij_loop l hl r (A ++ [x]) (ivJ2 j x) (by rw [← h]; simp)
  refine Runs.next ?_ ih
  unfold ijMk
  simp only [iJoin_l1, ltN, decide_eq_true hi, cond_true, hg, Option.bind_some, w1 hi hl]
  rw [show (A ++ [x]).length = A.length + 1 by simp]
  unfold ivJ2
  obtain ⟨x1, x2, x3⟩ := x
  obtain ⟨j1, j2, j3⟩ := j
  simp only []
  generalize ivN (x1, (x2, x3)) = t
  obtain ⟨t1, t2, t3⟩ := t
  cases t1 with
  | true => rfl
  | false => cases j1 <;> rfl
def iJoin_s (l : List Iv) : Option Iv := some (ivJn l)
theorem iJoin_ok (l : List Iv) (y : Iv) (hg : (d1 (cL rIn)).good l) (h : iJoin_s l = some y) : ∃ n, iJoin n l = some y := by
 have := soi h; subst this
 refine ⟨l.length + 1, ?_⟩
 unfold iJoin
 have := ij_loop l hg.2 l [] noI rfl
 exact obB (this _ (Nat.le_refl _)) rfl
theorem ivN_rng (s : Iv) : -1099511627776 ≤ (ivN s).2.1 ∧ (ivN s).2.1 ≤ 1099511627776 ∧ -1099511627776 ≤ (ivN s).2.2 ∧ (ivN s).2.2 ≤ 1099511627776 := by
 rcases ivN_ok s with h | ⟨_, h1, h2, h3, h4, h5⟩
 · rw [h]; exact ⟨by decide, by decide, by decide, by decide⟩
 · omega
def iNeg_s (a : Iv) : Option Iv := some (ivNeg a)
theorem iNeg_ok (a y : Iv) (hg : (d1 cIn).good a) (h : iNeg_s a = some y) : iNeg a = some y := by
 obtain ⟨e, lo, hi⟩ := a
 have := soi h; subst this
 obtain ⟨h1, h2, h3, h4⟩ := ivN_rng (e, (lo, hi))
 unfold iNeg ivNeg ivMk
 simp only []
 generalize ivN (e, (lo, hi)) = t at *
 obtain ⟨t1, t2, t3⟩ := t
 simp only [] at h1 h2 h3 h4 ⊢
 cases t1 with
 | true => rfl
 | false => rw [w64 (by omega) (by omega), w64 (by omega) (by omega), Int.zero_sub, Int.zero_sub]; rfl
def iMeet_s (p : Iv × Iv) : Option Iv := some (ivMt p.1 p.2)
theorem iMeet_ok (p : Iv × Iv) (y : Iv) (hg : (dc cIn (d1 cIn)).good p) (h : iMeet_s p = some y) : iMeet p.1 p.2 = some y := by
 obtain ⟨⟨e, lo, hi⟩, ⟨e', lo', hi'⟩⟩ := p
 have := soi h; subst this
 unfold iMeet ivMt ivMk
 simp only []
 generalize ivN (e, (lo, hi)) = t
 generalize ivN (e', (lo', hi')) = t'
 cases t.1 with
 | true => rfl
 | false => cases t'.1 <;> rfl
def iSum_s (p : Int × Int) : Option Int := some (ivSum p.1 p.2)
theorem iSum_ok (p : Int × Int) (y : Int) (hg : (dc (cI .i64) (d1 (cI .i64))).good p) (h : iSum_s p = some y) : iSum p.1 p.2 = some y := by
 obtain ⟨x, z⟩ := p
 have := soi h; subst this
 unfold iSum ivSum ivFar ivClip
 simp only []
 by_cases h1 : 1099511627776 ≤ x
 · rw [decide_eq_true h1]; rfl
 · by_cases h2 : x ≤ -1099511627776
   · rw [decide_eq_false h1, decide_eq_true h2]; rfl
   · by_cases h3 : 1099511627776 ≤ z
     · rw [decide_eq_false h1, decide_eq_false h2, decide_eq_true h3]; rfl
     · by_cases h4 : z ≤ -1099511627776
       · rw [decide_eq_false h1, decide_eq_false h2, decide_eq_false h3, decide_eq_true h4]; rfl
       · rw [decide_eq_false h1, decide_eq_false h2, decide_eq_false h3, decide_eq_false h4, w64 (by omega) (by omega)]; rfl
def iHull_s (p : Int × Int) : Option Iv := some (ivHull p.1 p.2)
theorem iHull_ok (p : Int × Int) (y : Iv) (hg : (dc (cI .i64) (d1 (cI .i64))).good p) (h : iHull_s p = some y) : iHull p.1 p.2 = some y := by
 have := soi h; subst this; rfl
end
end Su
end
section
namespace Su
open Go Fly
set_option linter.unusedVariables false
noncomputable section
def iAdd  (a : (Bool × (Int × Int))) (b : (Bool × (Int × Int))) : Option (Bool × (Int × Int)) :=
 (bif (Su.ivN (a.1, (a.2.1, a.2.2))).1 then
 some (true, ((0 : Int), (0 : Int)))
 else
  (bif (Su.ivN (b.1, (b.2.1, b.2.2))).1 then
  some (true, ((0 : Int), (0 : Int)))
 else
  some ((Su.ivHull (Su.ivSum (Su.ivN (a.1, (a.2.1, a.2.2))).2.1 (Su.ivN (b.1, (b.2.1, b.2.2))).2.1) (Su.ivSum (Su.ivN (a.1, (a.2.1, a.2.2))).2.2 (Su.ivN (b.1, (b.2.1, b.2.2))).2.2)).1, ((Su.ivHull (Su.ivSum (Su.ivN (a.1, (a.2.1, a.2.2))).2.1 (Su.ivN (b.1, (b.2.1, b.2.2))).2.1) (Su.ivSum (Su.ivN (a.1, (a.2.1, a.2.2))).2.2 (Su.ivN (b.1, (b.2.1, b.2.2))).2.2)).2.1, (Su.ivHull (Su.ivSum (Su.ivN (a.1, (a.2.1, a.2.2))).2.1 (Su.ivN (b.1, (b.2.1, b.2.2))).2.1) (Su.ivSum (Su.ivN (a.1, (a.2.1, a.2.2))).2.2 (Su.ivN (b.1, (b.2.1, b.2.2))).2.2)).2.2))))
def iAdd_s (p : Iv × Iv) : Option Iv := some (ivAdd p.1 p.2)
theorem iAdd_ok (p : Iv × Iv) (y : Iv) (hg : (dc cIn (d1 cIn)).good p) (h : iAdd_s p = some y) : iAdd p.1 p.2 = some y := by
 obtain ⟨⟨e, lo, hi⟩, ⟨e', lo', hi'⟩⟩ := p
 have := soi h; subst this
 unfold iAdd ivAdd
 simp only []
 generalize ivN (e, (lo, hi)) = t
 generalize ivN (e', (lo', hi')) = t'
 cases t.1 with
 | true => rfl
 | false => cases t'.1 <;> rfl
end
end Su
end
section
namespace Su
open Go Fly
def toCk (a : Ck) : Ckp := ((a.1, (a.2.1, a.2.2.1)), (a.2.2.2.1, (a.2.2.2.2.1, a.2.2.2.2.2)))
def frCk (c : Ckp) : Ck := (c.1.1, (c.1.2.1, (c.1.2.2, (c.2.1, (c.2.2.1, c.2.2.2)))))
noncomputable def cCk2 : Cod Ckp := cA (dm dCk toCk frCk (fun _ => rfl) (fun _ => rfl)) (fun _ => rfl)
end Su
namespace Su
open Go Fly
end Su
end
section
namespace Su
open Go Fly
set_option linter.unusedVariables false
noncomputable section
def iSub  (a : (Bool × (Int × Int))) (b : (Bool × (Int × Int))) : Option (Bool × (Int × Int)) :=
 some ((Su.ivAdd (a.1, (a.2.1, a.2.2)) ((Su.ivNeg (b.1, (b.2.1, b.2.2))).1, ((Su.ivNeg (b.1, (b.2.1, b.2.2))).2.1, (Su.ivNeg (b.1, (b.2.1, b.2.2))).2.2))).1, ((Su.ivAdd (a.1, (a.2.1, a.2.2)) ((Su.ivNeg (b.1, (b.2.1, b.2.2))).1, ((Su.ivNeg (b.1, (b.2.1, b.2.2))).2.1, (Su.ivNeg (b.1, (b.2.1, b.2.2))).2.2))).2.1, (Su.ivAdd (a.1, (a.2.1, a.2.2)) ((Su.ivNeg (b.1, (b.2.1, b.2.2))).1, ((Su.ivNeg (b.1, (b.2.1, b.2.2))).2.1, (Su.ivNeg (b.1, (b.2.1, b.2.2))).2.2))).2.2))
def iPt  (n : Int) : Option (Bool × (Int × Int)) :=
 some ((Su.ivMk n n).1, ((Su.ivMk n n).2.1, (Su.ivMk n n).2.2))
def kNorm  (c : ((Bool × (Int × Int)) × (Bool × (Int × Int)))) : Option ((Bool × (Int × Int)) × (Bool × (Int × Int))) :=
 (bif (Su.ivJn [(c.1.1, (c.1.2.1, c.1.2.2))]).1 then
 some (Su.toCk (true, ((0 : Int), ((0 : Int), (true, ((0 : Int), (0 : Int)))))))
 else
  (bif (Su.ivJn [(c.2.1, (c.2.2.1, c.2.2.2))]).1 then
  some (Su.toCk (true, ((0 : Int), ((0 : Int), (true, ((0 : Int), (0 : Int)))))))
 else
  some (Su.toCk ((Su.ivJn [(c.1.1, (c.1.2.1, c.1.2.2))]).1, ((Su.ivJn [(c.1.1, (c.1.2.1, c.1.2.2))]).2.1, ((Su.ivJn [(c.1.1, (c.1.2.1, c.1.2.2))]).2.2, ((Su.ivJn [(c.2.1, (c.2.2.1, c.2.2.2))]).1, ((Su.ivJn [(c.2.1, (c.2.2.1, c.2.2.2))]).2.1, (Su.ivJn [(c.2.1, (c.2.2.1, c.2.2.2))]).2.2))))))))
def iSub_s (p : Iv × Iv) : Option Iv := some (ivSub p.1 p.2)
theorem iSub_ok (p : Iv × Iv) (y : Iv) (hg : (dc cIn (d1 cIn)).good p) (h : iSub_s p = some y) : iSub p.1 p.2 = some y := by
 have := soi h; subst this; rfl
def iPt_s (n : Int) : Option Iv := some (ivMk n n)
theorem iPt_ok (n : Int) (y : Iv) (hg : (d1 (cI .i64)).good n) (h : iPt_s n = some y) : iPt n = some y := by
 have := soi h; subst this; rfl
def kNorm_s (c : Ckp) : Option Ckp := some (ckN c)
theorem kNorm_ok (c y : Ckp) (hg : (d1 cCk2).good c) (h : kNorm_s c = some y) : kNorm c = some y := by
 obtain ⟨⟨a, b, d⟩, ⟨a', b', d'⟩⟩ := c
 have := soi h; subst this
 unfold kNorm ckN
 simp only []
 generalize ivJn [(a, (b, d))] = t
 generalize ivJn [(a', (b', d'))] = t'
 obtain ⟨t1, t2, t3⟩ := t
 obtain ⟨t4, t5, t6⟩ := t'
 cases t1 with
 | true => rfl
 | false => cases t4 <;> rfl
end
end Su
end
section
namespace Su
open Go Fly
set_option linter.unusedVariables false
noncomputable section
def kOf  (v : (Bool × (Int × Int))) (k : (Bool × (Int × Int))) : Option ((Bool × (Int × Int)) × (Bool × (Int × Int))) :=
 some (Su.ckN ((Su.ivSub v k), (Su.ivAdd v k)))
def kTick  (c : ((Bool × (Int × Int)) × (Bool × (Int × Int)))) : Option ((Bool × (Int × Int)) × (Bool × (Int × Int))) :=
 some (Su.ckN ((Su.ivAdd (Su.ckN c).1 (false, ((-1), (-1)))), (Su.ivAdd (Su.ckN c).2 (false, ((1 : Int), (1 : Int))))))
def kRed  (v : (Bool × (Int × Int))) (c : ((Bool × (Int × Int)) × (Bool × (Int × Int)))) (k : (Bool × (Int × Int))) : Option (Bool × (Int × Int)) :=
 some (Su.ivMt (Su.ivMt v (Su.ivAdd (Su.ckN c).1 k)) (Su.ivSub (Su.ckN c).2 k))
def kMt  (a : ((Bool × (Int × Int)) × (Bool × (Int × Int)))) (b : ((Bool × (Int × Int)) × (Bool × (Int × Int)))) : Option ((Bool × (Int × Int)) × (Bool × (Int × Int))) :=
 some (Su.ckN ((Su.ivMt (Su.ckN a).1 (Su.ckN b).1), (Su.ivMt (Su.ckN a).2 (Su.ckN b).2)))
def kJn  (a : ((Bool × (Int × Int)) × (Bool × (Int × Int)))) (b : ((Bool × (Int × Int)) × (Bool × (Int × Int)))) : Option ((Bool × (Int × Int)) × (Bool × (Int × Int))) :=
 some (Su.ckN ((Su.ivJn [(Su.ckN a).1, (Su.ckN b).1]), (Su.ivJn [(Su.ckN a).2, (Su.ckN b).2])))
def kIn  (a : ((Bool × (Int × Int)) × (Bool × (Int × Int)))) (b : ((Bool × (Int × Int)) × (Bool × (Int × Int)))) : Option Bool :=
 (bif (Su.ivIn (Su.ckN a).1 (Su.ckN b).1) then
 some (Su.ivIn (Su.ckN a).2 (Su.ckN b).2)
 else
  some false)
def kHas  (c : ((Bool × (Int × Int)) × (Bool × (Int × Int)))) (v : Int) (k : Int) : Option Bool :=
 (bif (decide (((min v k) < (-2199023255552)))) then
 some false
 else
  (bif (decide ((2199023255552 < (max v k)))) then
  some false
 else
  (bif (Su.ivHas (Su.ckN c).1 (Go.IntKind.wrap .i64 (v - k))) then
  some (Su.ivHas (Su.ckN c).2 (Go.IntKind.wrap .i64 (v + k)))
 else
  some false)))
def kOf_s (p : Iv × Iv) : Option Ckp := some (ckOf p.1 p.2)
theorem kOf_ok (p : Iv × Iv) (y : Ckp) (hg : (dc cIn (d1 cIn)).good p) (h : kOf_s p = some y) : kOf p.1 p.2 = some y := by
 have := soi h; subst this; rfl
def kTick_s (c : Ckp) : Option Ckp := some (ckTick c)
theorem kTick_ok (c y : Ckp) (hg : (d1 cCk2).good c) (h : kTick_s c = some y) : kTick c = some y := by
 have := soi h; subst this; rfl
def kRed_s (p : Iv × (Ckp × Iv)) : Option Iv := some (ckRed p.1 p.2.1 p.2.2)
theorem kRed_ok (p : Iv × (Ckp × Iv)) (y : Iv) (hg : (dc cIn (dc cCk2 (d1 cIn))).good p) (h : kRed_s p = some y) : kRed p.1 p.2.1 p.2.2 = some y := by
 have := soi h; subst this; rfl
def kMt_s (p : Ckp × Ckp) : Option Ckp := some (ckMt p.1 p.2)
theorem kMt_ok (p : Ckp × Ckp) (y : Ckp) (hg : (dc cCk2 (d1 cCk2)).good p) (h : kMt_s p = some y) : kMt p.1 p.2 = some y := by
 have := soi h; subst this; rfl
def kJn_s (p : Ckp × Ckp) : Option Ckp := some (ckJn p.1 p.2)
theorem kJn_ok (p : Ckp × Ckp) (y : Ckp) (hg : (dc cCk2 (d1 cCk2)).good p) (h : kJn_s p = some y) : kJn p.1 p.2 = some y := by
 have := soi h; subst this; rfl
def kIn_s (p : Ckp × Ckp) : Option Bool := some (ckIn p.1 p.2)
theorem kIn_ok (p : Ckp × Ckp) (y : Bool) (hg : (dc cCk2 (d1 cCk2)).good p) (h : kIn_s p = some y) : kIn p.1 p.2 = some y := by
 have := soi h; subst this
 unfold kIn ckIn
 cases ivIn (ckN p.1).1 (ckN p.2).1 <;> rfl
def kHas_s (p : Ckp × (Int × Int)) : Option Bool := some (ckHas p.1 p.2.1 p.2.2)
theorem kHas_ok (p : Ckp × (Int × Int)) (y : Bool) (hg : (dc cCk2 (dc (cI .i64) (d1 (cI .i64)))).good p) (h : kHas_s p = some y) : kHas p.1 p.2.1 p.2.2 = some y := by
 obtain ⟨c, v, k⟩ := p
 have := soi h; subst this
 unfold kHas ckHas
 simp only []
 by_cases h1 : min v k < -2199023255552
 · rw [decide_eq_true h1]; rfl
 · by_cases h2 : 2199023255552 < max v k
   · rw [decide_eq_false h1, decide_eq_true h2]; rfl
   · rw [decide_eq_false h1, decide_eq_false h2, w64 (by omega) (by omega), w64 (by omega) (by omega)]
     cases ivHas (ckN c).1 (v - k) <;> rfl
end
end Su
end
section
namespace Su
open Go Fly
set_option linter.unusedVariables false
def nanI (f : Int) : Bool := nanK (bK f.toNat)
def ky (f : Int) : Int := keyI f.toNat
def mnI (a b : Int) : Int := ((minN a.toNat b.toNat : Nat) : Int)
def mxI (a b : Int) : Int := ((maxN a.toNat b.toNat : Nat) : Int)
def Fw (f : Int) : Prop := 0 ≤ f ∧ f < 18446744073709551616
def spMk (lo hi : Int) : Spn := normS (false, (lo, hi))
def spJ2 (j s : Spn) : Spn := bif (normS s).1 then j else bif j.1 then normS s else spMk (mnI j.2.1 (normS s).2.1) (mxI j.2.2 (normS s).2.2)
def spJn (l : List Spn) : Spn := l.foldl spJ2 noneS
def spMt (a b : Spn) : Spn := bif (normS a).1 || (normS b).1 then noneS else spMk (mxI (normS a).2.1 (normS b).2.1) (mnI (normS a).2.2 (normS b).2.2)
def spIn (a b : Spn) : Bool := (normS a).1 || (!(normS b).1 && (leF (normS b).2.1 (normS a).2.1 && leF (normS a).2.2 (normS b).2.2))
def spHas (s : Spn) (f : Int) : Bool := !decide (clsK (bK f.toNat) = 3) && (!(spMk f f).1 && spIn (spMk f f) s)
theorem leF_iff {a b : Int} : leF a b = true ↔ nanI a = false ∧ nanI b = false ∧ ky a ≤ ky b := by
 unfold leF nanI ky cmpO cmpC cmpZ
 cases nanK (bK a.toNat) <;> cases nanK (bK b.toNat) <;> simp
 by_cases h1 : keyI a.toNat < keyI b.toNat
 · rw [decide_eq_true h1]; simp; omega
 · rw [decide_eq_false h1]
   by_cases h2 : keyI b.toNat < keyI a.toNat
   · rw [decide_eq_true h2]; simp; omega
   · rw [decide_eq_false h2]; simp; omega
theorem ky_abs (f : Int) : (ky f).natAbs = bK f.toNat := by
 unfold ky keyI
 cases bS f.toNat <;> simp
theorem ky_inj {a b : Int} (ha : Fw a) (hb : Fw b) (za : a ≠ 9223372036854775808) (zb : b ≠ 9223372036854775808) (h : ky a = ky b) : a = b := by
 have h1 := ky_abs a
 have h2 := ky_abs b
 rw [h, h2] at h1
 obtain ⟨a0, a1⟩ := ha
 obtain ⟨b0, b1⟩ := hb
 unfold ky keyI at h
 have sa : bS a.toNat = decide (9223372036854775808 ≤ a.toNat) := by
  cases hs : bS a.toNat with
  | true => rw [decide_eq_true (bS_iff.1 hs)]
  | false => rw [decide_eq_false (by have := bS_not.1 hs; omega)]
 have sb : bS b.toNat = decide (9223372036854775808 ≤ b.toNat) := by
  cases hs : bS b.toNat with
  | true => rw [decide_eq_true (bS_iff.1 hs)]
  | false => rw [decide_eq_false (by have := bS_not.1 hs; omega)]
 rw [sa, sb] at h
 unfold bK at h h1
 by_cases p : 9223372036854775808 ≤ a.toNat <;> by_cases q : 9223372036854775808 ≤ b.toNat
 · rw [decide_eq_true p, decide_eq_true q] at h; simp only [cond_true] at h; omega
 · rw [decide_eq_true p, decide_eq_false q] at h; simp only [cond_true, cond_false] at h; omega
 · rw [decide_eq_false p, decide_eq_true q] at h; simp only [cond_true, cond_false] at h; omega
 · rw [decide_eq_false p, decide_eq_false q] at h; simp only [cond_false] at h; omega
structure Nz (f : Int) : Prop where
 w : Fw f
 n : nanI f = false
 z : f ≠ 9223372036854775808
theorem nz_of {f : Int} (h : Fw f) (hn : nanI f = false) : Nz (nzI f) ∧ ky (nzI f) = ky f := by
 unfold nzI zI
 cases hz : Nat.beq (bK f.toNat) 0 with
 | true =>
  rw [cond_true]
  have h0 := Nat.eq_of_beq_eq_true hz
  refine ⟨⟨⟨by decide, by decide⟩, by decide, by decide⟩, ?_⟩
  have := ky_abs f
  have e : ky 0 = 0 := by decide
  rw [e]; omega
 | false =>
  rw [cond_false]
  refine ⟨⟨h, hn, fun e => ?_⟩, rfl⟩
  subst e
  revert hz; decide
def SpOk (s : Spn) : Prop := s = noneS ∨ (s.1 = false ∧ Nz s.2.1 ∧ Nz s.2.2 ∧ ky s.2.1 ≤ ky s.2.2 ∧ s.2.1 ≠ 9218868437227405312 ∧ s.2.2 ≠ 18442240474082181120)
def SpW (s : Spn) : Prop := Fw s.2.1 ∧ Fw s.2.2
theorem nz_same {f : Int} (h : Nz f) : nzI f = f := by
 obtain ⟨h1, h2⟩ := nz_of h.w h.n
 exact ky_inj h1.w h.w h1.z h.z h2
theorem nzI_inf {f : Int} (h : Fw f) (hn : nanI f = false) (c : Int) (hc : c = 9218868437227405312 ∨ c = 18442240474082181120) (hf : f ≠ c) : nzI f ≠ c := by
 unfold nzI
 cases zI f with
 | true => rw [cond_true]; omega
 | false => rw [cond_false]; exact hf
theorem normS_cases {s : Spn} (hw : SpW s) : normS s = noneS ∨ (s.1 = false ∧ nanI s.2.1 = false ∧ nanI s.2.2 = false ∧ ky s.2.1 ≤ ky s.2.2 ∧ s.2.1 ≠ 9218868437227405312 ∧ s.2.2 ≠ 18442240474082181120 ∧ normS s = (false, (nzI s.2.1, nzI s.2.2))) := by
 unfold normS
 cases h : (s.1 || (!leF s.2.1 s.2.2 || (decide (s.2.1 = 9218868437227405312) || decide (s.2.2 = 18442240474082181120)))) with
 | true => exact .inl rfl
 | false =>
  simp only [Bool.or_eq_false_iff, Bool.not_eq_false', decide_eq_false_iff_not] at h
  obtain ⟨h0, h1, h2, h3⟩ := h
  obtain ⟨a, b, c⟩ := leF_iff.1 h1
  exact .inr ⟨h0, a, b, c, h2, h3, by rw [h0]; rfl⟩
theorem normS_ok {s : Spn} (hw : SpW s) : SpOk (normS s) := by
 rcases normS_cases hw with h | ⟨_, h1, h2, h3, h4, h5, h⟩
 · rw [h]; exact .inl rfl
 · rw [h]
   obtain ⟨a1, a2⟩ := nz_of hw.1 h1
   obtain ⟨b1, b2⟩ := nz_of hw.2 h2
   exact .inr ⟨rfl, a1, b1, by simp only []; rw [a2, b2]; exact h3, nzI_inf hw.1 h1 _ (.inl rfl) h4, nzI_inf hw.2 h2 _ (.inr rfl) h5⟩
theorem SpOk.w {s : Spn} (h : SpOk s) : SpW s := by
 rcases h with h | ⟨_, h1, h2, _⟩
 · rw [h]; exact ⟨⟨by decide, by decide⟩, ⟨by decide, by decide⟩⟩
 · exact ⟨h1.w, h2.w⟩
theorem normS_id {s : Spn} (h : SpOk s) : normS s = s := by
 obtain ⟨e, lo, hi⟩ := s
 rcases h with h | ⟨h0, h1, h2, h3, h4, h5⟩
 · rw [h]; rfl
 · simp only [] at h0 h1 h2 h3 h4 h5
   subst h0
   unfold normS
   simp only []
   rw [leF_iff.2 ⟨h1.n, h2.n, h3⟩, decide_eq_false h4, decide_eq_false h5, nz_same h1, nz_same h2]; rfl
theorem spOk_false {s : Spn} (h : SpOk s) (h' : s.1 = false) : Nz s.2.1 ∧ Nz s.2.2 ∧ ky s.2.1 ≤ ky s.2.2 ∧ s.2.1 ≠ 9218868437227405312 ∧ s.2.2 ≠ 18442240474082181120 := by
 rcases h with h | h
 · rw [h] at h'; cases h'
 · exact h.2
theorem spJ1 {a : Spn} (ha : SpW a) : spJn [a] = normS a := by
 show spJ2 noneS a = _
 unfold spJ2
 rcases normS_cases ha with h | ⟨_, _, _, _, _, _, h⟩ <;> rw [h] <;> rfl
theorem key_inf : ky 9218868437227405312 = 9218868437227405312 := by decide
theorem key_ninf : ky 18442240474082181120 = -9218868437227405312 := by decide
end Su
end
section
namespace Su
open Go Fly
set_option linter.unusedVariables false
noncomputable section
def zMake  (lo : Int) (hi : Int) : Option (Bool × (Int × Int)) :=
 some (Su.normS (false, (lo, hi)))
def zIn  (a : (Bool × (Int × Int))) (b : (Bool × (Int × Int))) : Option Bool :=
 (bif (Su.normS a).1 then
 some true
 else
  (bif (!(Su.normS b).1) then
  (bif (Su.leF (Su.normS b).2.1 (Su.normS a).2.1) then
  some (Su.leF (Su.normS a).2.2 (Su.normS b).2.2)
 else
  some false)
 else
  some false))
def zHas  (s : (Bool × (Int × Int))) (f : Int) : Option Bool :=
 (bif (!(decide (((((Su.clsK (Su.bK (Int.toNat f))) : Nat) : Int) = 3)))) then
 (bif (!(Su.normS (false, (f, f))).1) then
 (bif (Su.normS (Su.normS (false, (f, f)))).1 then
 some true
 else
  (bif (!(Su.normS s).1) then
  (bif (Su.leF (Su.normS s).2.1 (Su.normS (Su.normS (false, (f, f)))).2.1) then
  some (Su.leF (Su.normS (Su.normS (false, (f, f)))).2.2 (Su.normS s).2.2)
 else
  some false)
 else
  some false))
 else
  some false)
 else
  some false)
def zMeet  (a : (Bool × (Int × Int))) (b : (Bool × (Int × Int))) : Option (Bool × (Int × Int)) :=
 (bif (Su.normS a).1 then
 some (true, ((0 : Int), (0 : Int)))
 else
  (bif (Su.normS b).1 then
  some (true, ((0 : Int), (0 : Int)))
 else
  some (Su.normS (false, ((((Su.maxN (Int.toNat (Su.normS a).2.1) (Int.toNat (Su.normS b).2.1)) : Nat) : Int), (((Su.minN (Int.toNat (Su.normS a).2.2) (Int.toNat (Su.normS b).2.2)) : Nat) : Int))))))
abbrev zJoin_l1_S := ((List (Bool × (Int × Int))) × (Int × (Int × (Bool × (Int × (Int × (Bool × (Int × (Int × Unit)))))))))
def zJoin_l1 : zJoin_l1_S → Option (zJoin_l1_S ⊕ zJoin_l1_S) := fun p0 => (bif (decide ((p0.2.2.1 < p0.2.1))) then
 ((Su.idx p0.1 p0.2.2.1)).bind fun x1 =>
 (bif (Su.normS x1).1 then
 some (.inl (p0.1, (p0.2.1, ((Go.IntKind.wrap .i64 (p0.2.2.1 + 1)), (p0.2.2.2.1, (p0.2.2.2.2.1, (p0.2.2.2.2.2.1, (p0.2.2.2.2.2.2.1, (p0.2.2.2.2.2.2.2.1, (p0.2.2.2.2.2.2.2.2.1, ()))))))))))
 else
  (bif p0.2.2.2.2.2.2.1 then
  some (.inl (p0.1, (p0.2.1, ((Go.IntKind.wrap .i64 (p0.2.2.1 + 1)), (p0.2.2.2.1, (p0.2.2.2.2.1, (p0.2.2.2.2.2.1, ((Su.normS x1).1, ((Su.normS x1).2.1, ((Su.normS x1).2.2, ()))))))))))
 else
  some (.inl (p0.1, (p0.2.1, ((Go.IntKind.wrap .i64 (p0.2.2.1 + 1)), (p0.2.2.2.1, (p0.2.2.2.2.1, (p0.2.2.2.2.2.1, ((Su.normS (false, ((((Su.minN (Int.toNat p0.2.2.2.2.2.2.2.1) (Int.toNat (Su.normS x1).2.1)) : Nat) : Int), (((Su.maxN (Int.toNat p0.2.2.2.2.2.2.2.2.1) (Int.toNat (Su.normS x1).2.2)) : Nat) : Int)))).1, ((Su.normS (false, ((((Su.minN (Int.toNat p0.2.2.2.2.2.2.2.1) (Int.toNat (Su.normS x1).2.1)) : Nat) : Int), (((Su.maxN (Int.toNat p0.2.2.2.2.2.2.2.2.1) (Int.toNat (Su.normS x1).2.2)) : Nat) : Int)))).2.1, ((Su.normS (false, ((((Su.minN (Int.toNat p0.2.2.2.2.2.2.2.1) (Int.toNat (Su.normS x1).2.1)) : Nat) : Int), (((Su.maxN (Int.toNat p0.2.2.2.2.2.2.2.2.1) (Int.toNat (Su.normS x1).2.2)) : Nat) : Int)))).2.2, ()))))))))))))
 else
  some (.inr (p0.1, (p0.2.1, (p0.2.2.1, (p0.2.2.2.1, (p0.2.2.2.2.1, (p0.2.2.2.2.2.1, (p0.2.2.2.2.2.2.1, (p0.2.2.2.2.2.2.2.1, (p0.2.2.2.2.2.2.2.2.1, ())))))))))))
def zJoin  (fu : Nat) (l : (List (Bool × (Int × Int)))) : Option (Bool × (Int × Int)) :=
 (itP fu (zJoin_l1) (l, ((((List.length l) : Nat) : Int), ((0 : Int), (false, ((0 : Int), ((0 : Int), (true, ((0 : Int), ((0 : Int), ())))))))))).bind fun x2 =>
 some (x2.2.2.2.2.2.2.1, (x2.2.2.2.2.2.2.2.1, x2.2.2.2.2.2.2.2.2.1))
def slJoin_l1 : (Int × ((List Int) × (Int × (Int × Unit)))) → Option ((Int × ((List Int) × (Int × (Int × Unit)))) ⊕ (Int × ((List Int) × (Int × (Int × Unit))))) := fun p0 => (bif (decide ((p0.2.2.2.1 < p0.2.2.1))) then
 ((Su.idx p0.2.1 p0.2.2.2.1)).bind fun x1 =>
 some (.inl ((((Su.maxN (Int.toNat p0.1) (Int.toNat (Su.gdF x1))) : Nat) : Int), (p0.2.1, (p0.2.2.1, ((Go.IntKind.wrap .i64 (p0.2.2.2.1 + 1)), ())))))
 else
  some (.inr (p0.1, (p0.2.1, (p0.2.2.1, (p0.2.2.2.1, ()))))))
def slJoin  (fu : Nat) (l : (List Int)) : Option Int :=
 (itP fu (slJoin_l1) ((0 : Int), (l, ((((List.length l) : Nat) : Int), ((0 : Int), ()))))).bind fun x2 =>
 some x2.1
def zMake_s (p : Int × Int) : Option Spn := some (spMk p.1 p.2)
theorem zMake_ok (p : Int × Int) (y : Spn) (hg : (dc (cI .u64) (d1 (cI .u64))).good p) (h : zMake_s p = some y) : zMake p.1 p.2 = some y := by
 have := soi h; subst this; rfl
def zIn_s (p : Spn × Spn) : Option Bool := some (spIn p.1 p.2)
theorem zIn_ok (p : Spn × Spn) (y : Bool) (hg : (dc cSpn (d1 cSpn)).good p) (h : zIn_s p = some y) : zIn p.1 p.2 = some y := by
 have := soi h; subst this
 unfold zIn spIn
 generalize normS p.1 = t
 generalize normS p.2 = t'
 cases t.1 with
 | true => rfl
 | false =>
  cases t'.1 with
  | true => rfl
  | false => cases leF t'.2.1 t.2.1 <;> rfl
def zHas_s (p : Spn × Int) : Option Bool := some (spHas p.1 p.2)
theorem zHas_ok (p : Spn × Int) (y : Bool) (hg : (dc cSpn (d1 (cI .u64))).good p) (h : zHas_s p = some y) : zHas p.1 p.2 = some y := by
 have := soi h; subst this
 unfold zHas spHas spIn spMk
 have e : decide (((clsK (bK p.2.toNat) : Nat) : Int) = 3) = decide (clsK (bK p.2.toNat) = 3) := cls_is _ 3
 rw [e]
 generalize normS (false, (p.2, p.2)) = t
 generalize normS t = u
 generalize normS p.1 = t'
 cases decide (clsK (bK p.2.toNat) = 3) with
 | true => rfl
 | false =>
  cases t.1 with
  | true => rfl
  | false =>
   cases u.1 with
   | true => rfl
   | false =>
    cases t'.1 with
    | true => rfl
    | false => cases leF t'.2.1 u.2.1 <;> rfl
def zMeet_s (p : Spn × Spn) : Option Spn := some (spMt p.1 p.2)
theorem zMeet_ok (p : Spn × Spn) (y : Spn) (hg : (dc cSpn (d1 cSpn)).good p) (h : zMeet_s p = some y) : zMeet p.1 p.2 = some y := by
 have := soi h; subst this
 unfold zMeet spMt
 generalize normS p.1 = t
 generalize normS p.2 = t'
 cases t.1 with
 | true => rfl
 | false => cases t'.1 <;> rfl
abbrev ZjS := List Spn × (Int × (Int × (Bool × (Int × (Int × (Bool × (Int × (Int × Unit))))))))
def zjMk (l : List Spn) (i : Int) (j : Spn) : ZjS := (l, (((l.length : Nat) : Int), (i, (false, (0, (0, (j.1, (j.2.1, (j.2.2, ())))))))))
theorem zj_loop (l : List Spn) (hl : l.length ≤ maxLen) : ∀ (r A : List Spn) (j : Spn), A ++ r = l → Runs (r.length + 1) zJoin_l1 (zjMk l A.length j) (zjMk l l.length (r.foldl spJ2 j))
 | [], A, j, h => by
  rw [List.append_nil] at h; subst h
  refine Runs.stop ?_
  unfold zjMk
  simp only [zJoin_l1, ltN, decide_eq_false (Nat.lt_irrefl _), cond_false]; rfl
 | x :: r, A, j, h => by
  have hi : A.length < l.length := by rw [← h]; simp
  have hg : idx l (A.length : Int) = some x := by
   rw [idx_nat, ← h, List.getElem?_append_right (by omega), Nat.sub_self]; rfl
  have ih := zj_loop l hl r (A ++ [x]) (spJ2 j x) (by rw [← h]; simp)
  refine Runs.next ?_ ih
  unfold zjMk
  simp only [zJoin_l1, ltN, decide_eq_true hi, cond_true, hg, Option.bind_some, w1 hi hl]
  rw [show (A ++ [x]).length = A.length + 1 by simp]
  unfold spJ2 spMk mnI mxI
  obtain ⟨j1, j2, j3⟩ := j
  simp only []
  generalize normS x = t
  obtain ⟨t1, t2, t3⟩ := t
  cases t1 with
  | true => rfl
  | false => cases j1 <;> rfl
def zJoin_s (l : List Spn) : Option Spn := some (spJn l)
theorem zJoin_ok (l : List Spn) (y : Spn) (hg : (d1 (cL rSp)).good l) (h : zJoin_s l = some y) : ∃ n, zJoin n l = some y := by
 have := soi h; subst this
 refine ⟨l.length + 1, ?_⟩
 unfold zJoin
 have := zj_loop l hg.2 l [] noneS rfl
 exact obB (this _ (Nat.le_refl _)) rfl
def slJ2 (j e : Int) : Int := mxI j (gdF e)
def slJn (l : List Int) : Int := l.foldl slJ2 0
theorem slj_loop (l : List Int) (hl : l.length ≤ maxLen) : ∀ (r A : List Int) (j : Int), A ++ r = l → Runs (r.length + 1) slJoin_l1 (j, (l, ((l.length : Int), ((A.length : Int), ())))) (r.foldl slJ2 j, (l, ((l.length : Int), ((l.length : Int), ()))))
 | [], A, j, h => by
  rw [List.append_nil] at h; subst h
  refine Runs.stop ?_
  simp only [slJoin_l1, ltN, decide_eq_false (Nat.lt_irrefl _), cond_false]; rfl
 | x :: r, A, j, h => by
  have hi : A.length < l.length := by rw [← h]; simp
  have hg : idx l (A.length : Int) = some x := by
   rw [idx_nat, ← h, List.getElem?_append_right (by omega), Nat.sub_self]; rfl
  have ih := slj_loop l hl r (A ++ [x]) (slJ2 j x) (by rw [← h]; simp)
  refine Runs.next ?_ ih
  simp only [slJoin_l1, ltN, decide_eq_true hi, cond_true, hg, Option.bind_some, w1 hi hl]
  rw [show (A ++ [x]).length = A.length + 1 by simp]
  rfl
def slJoin_s (l : List Int) : Option Int := some (slJn l)
theorem slJoin_ok (l : List Int) (y : Int) (hg : (d1 (cQ 2 1)).good l) (h : slJoin_s l = some y) : ∃ n, slJoin n l = some y := by
 have := soi h; subst this
 refine ⟨l.length + 1, ?_⟩
 unfold slJoin
 have := slj_loop l hg.2 l [] 0 rfl
 exact obB (this _ (Nat.le_refl _)) rfl
end
end Su
end
section
namespace Su
open Go Fly
set_option linter.unusedVariables false
noncomputable section
def cBare  (x : Su.Ce) (t : Int) : Option Su.Ce :=
 (bif (decide ((t = 1))) then
 some (Su.Ce.mk (Su.Ce.f x) (Su.Ce.t x) (false, ((0 : Int), (0 : Int))) (false, ((0 : Int), (0 : Int))) (false, ((0 : Int), (0 : Int))) (false, ((0 : Int), (0 : Int))) (0 : Int) (false, ((0 : Int), ([], (0 : Int)))))
 else
  (bif (decide ((t = 2))) then
  some (Su.Ce.mk false false x.3 x.4 x.5 (false, ((0 : Int), (0 : Int))) (0 : Int) (false, ((0 : Int), ([], (0 : Int)))))
 else
  (bif (decide ((t = 3))) then
  some (Su.Ce.mk false false (false, ((0 : Int), (0 : Int))) (false, ((0 : Int), (0 : Int))) (false, ((0 : Int), (0 : Int))) x.6 (Su.Ce.sl x) x.8)
 else
  some (Su.Ce.mk false false (false, ((0 : Int), (0 : Int))) (false, ((0 : Int), (0 : Int))) (false, ((0 : Int), (0 : Int))) (false, ((0 : Int), (0 : Int))) (0 : Int) (false, ((0 : Int), ([], (0 : Int))))))))
def cNone  (x : Su.Ce) (t : Int) : Option Bool :=
 (bif (decide ((t = 1))) then
 some (((Su.Ce.f x) == false) && (((Su.Ce.t x) == false) && true))
 else
  (bif (decide ((t = 2))) then
  (bif (Su.ivJn [x.3]).1 then
  some true
 else
  some (Su.ckMt (x.4, x.5) (x.4, x.5)).1.1)
 else
  (bif (decide ((t = 3))) then
  some (Su.spJn [x.6]).1
 else
  some true)))
def iv0 : Iv := (false, (0, 0))
def fm0 : Bool × Int × List Su.Tm × Int := (false, (0, ([], 0)))
def bareC (x : Su.Ce) (t : Int) : Su.Ce :=
 bif decide (t = 1) then ⟨x.f, x.t, iv0, iv0, iv0, iv0, 0, fm0⟩
 else bif decide (t = 2) then ⟨false, false, x.i, x.d, x.p, iv0, 0, fm0⟩
 else bif decide (t = 3) then ⟨false, false, iv0, iv0, iv0, x.s, x.sl, x.fm⟩
 else ⟨false, false, iv0, iv0, iv0, iv0, 0, fm0⟩
def noneC (x : Su.Ce) (t : Int) : Bool :=
 bif decide (t = 1) then (x.f == false) && ((x.t == false) && true)
 else bif decide (t = 2) then (bif (ivJn [x.i]).1 then true else (ckMt (x.d, x.p) (x.d, x.p)).1.1)
 else bif decide (t = 3) then (spJn [x.s]).1 else true
def cBare_s (p : Su.Ce × Int) : Option Su.Ce := some (bareC p.1 p.2)
theorem cBare_ok (p : Su.Ce × Int) (y : Su.Ce) (hg : (dc cCe (d1 (cI .u8))).good p) (h : cBare_s p = some y) : cBare p.1 p.2 = some y := by
 have := soi h; subst this
 unfold cBare bareC
 cases decide (p.2 = 1) with
 | true => rfl
 | false =>
  cases decide (p.2 = 2) with
  | true => rfl
  | false => cases decide (p.2 = 3) <;> rfl
def cNone_s (p : Su.Ce × Int) : Option Bool := some (noneC p.1 p.2)
theorem cNone_ok (p : Su.Ce × Int) (y : Bool) (hg : (dc cCe (d1 (cI .u8))).good p) (h : cNone_s p = some y) : cNone p.1 p.2 = some y := by
 have := soi h; subst this
 unfold cNone noneC
 cases decide (p.2 = 1) with
 | true => rfl
 | false =>
  cases decide (p.2 = 2) with
  | true => cases (ivJn [p.1.i]).1 <;> rfl
  | false => cases decide (p.2 = 3) <;> rfl
end
end Su
end
