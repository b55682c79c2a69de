/-
  What functions of the program compute, in plain Lean, and that the evaluator finds it.
-/
import Derived.Test.YtnegfdebjikfiaaGreatSuSd
import Derived.Test.YtnegfdebjikfiaaGreatNC14
import Derived.Test.YtnegfdebjikfiaaGreatNC08
set_option maxRecDepth 10000
section
namespace Su
open Go Fly
set_option linter.unusedVariables false
noncomputable section
abbrev aSum_l1_S := ((List Su.Tm) × ((List Su.Tm) × (Nat × (Int × ((List Su.T) × Unit)))))
def aSum_l1_c3 :=
  fun (p5005 : aSum_l1_S) x5006 x5007 =>
  (bif (true && ((true && (decide ((1 ≤ (((List.length p5005.2.1) : Nat) : Int))))) && (decide (((((List.length p5005.2.1) : Nat) : Int) ≤ (((List.length p5005.2.1) : Nat) : Int)))))) then
  (bif ((true && (Nat.beq p5005.2.2.1 (List.length p5005.2.2.2.2.1))) && (Nat.ble ((List.length p5005.2.2.2.2.1) + (List.length [(T.agg [(T.s (.int .i64 (Su.Tm.id x5006))), (T.s (.int .u64 (Su.Tm.c x5007)))])])) 549755813888)) then
  some (.inl (p5005.1, ((List.take (Int.toNat ((((List.length p5005.2.1) : Nat) : Int) - 1)) (List.drop 1 p5005.2.1)), ((List.length (p5005.2.2.2.2.1 ++ [(T.agg [(T.s (.int .i64 (Su.Tm.id x5006))), (T.s (.int .u64 (Su.Tm.c x5007)))])])), (p5005.2.2.2.1, ((p5005.2.2.2.2.1 ++ [(T.agg [(T.s (.int .i64 (Su.Tm.id x5006))), (T.s (.int .u64 (Su.Tm.c x5007)))])]), ()))))))
 else
  none)
 else
  none : Option (aSum_l1_S ⊕ aSum_l1_S))
def aSum_l1_c4 :=
  fun (p5008 : aSum_l1_S) x5009 x5010 =>
  (bif ((true && (Nat.beq p5008.2.2.1 (List.length p5008.2.2.2.2.1))) && (Nat.ble ((List.length p5008.2.2.2.2.1) + (List.length [(T.agg [(T.s (.int .i64 (Su.Tm.id x5009))), (T.s (.int .u64 (Su.Tm.c x5010)))])])) 549755813888)) then
  some (.inl ((List.take (Int.toNat ((((List.length p5008.1) : Nat) : Int) - 1)) (List.drop 1 p5008.1)), ((List.take (Int.toNat ((((List.length p5008.2.1) : Nat) : Int) - 1)) (List.drop 1 p5008.2.1)), ((List.length (p5008.2.2.2.2.1 ++ [(T.agg [(T.s (.int .i64 (Su.Tm.id x5009))), (T.s (.int .u64 (Su.Tm.c x5010)))])])), (p5008.2.2.2.1, ((p5008.2.2.2.2.1 ++ [(T.agg [(T.s (.int .i64 (Su.Tm.id x5009))), (T.s (.int .u64 (Su.Tm.c x5010)))])]), ()))))))
 else
  none : Option (aSum_l1_S ⊕ aSum_l1_S))
def aSum_l1_c1 :=
  fun (p5001 : aSum_l1_S) =>
  (bif (decide (((((List.length p5001.1) : Nat) : Int) = 0))) then
  ((Su.idx p5001.2.1 0)).bind fun x8 =>
  ((Su.idx p5001.2.1 0)).bind fun x9 =>
  (aSum_l1_c3 p5001 x8 x9)
 else
  ((Su.idx p5001.2.1 0)).bind fun x10 =>
  ((Su.idx p5001.1 0)).bind fun x11 =>
  (bif (decide (((Su.Tm.id x10) < (Su.Tm.id x11)))) then
  ((Su.idx p5001.2.1 0)).bind fun x12 =>
  ((Su.idx p5001.2.1 0)).bind fun x13 =>
  (aSum_l1_c3 p5001 x12 x13)
 else
  ((Su.idx p5001.1 0)).bind fun x14 =>
  ((Su.idx p5001.1 0)).bind fun x15 =>
  ((Su.idx p5001.2.1 0)).bind fun x16 =>
  (bif (true && ((true && (decide ((1 ≤ (((List.length p5001.1) : Nat) : Int))))) && (decide (((((List.length p5001.1) : Nat) : Int) ≤ (((List.length p5001.1) : Nat) : Int)))))) then
  (bif (true && ((true && (decide ((1 ≤ (((List.length p5001.2.1) : Nat) : Int))))) && (decide (((((List.length p5001.2.1) : Nat) : Int) ≤ (((List.length p5001.2.1) : Nat) : Int)))))) then
  (bif (decide (((Su.Tm.c x15) = 0))) then
  (aSum_l1_c4 p5001 x14 x16)
 else
  (bif (decide (((Su.Tm.c x16) = 0))) then
  (aSum_l1_c4 p5001 x14 x15)
 else
  (bif ((true && (Nat.beq p5001.2.2.1 (List.length p5001.2.2.2.2.1))) && (Nat.ble ((List.length p5001.2.2.2.2.1) + (List.length [(T.agg [(T.s (.int .i64 (Su.Tm.id x14))), (T.s (.int .u64 (((Su.addN (Int.toNat (Su.Tm.c x15)) (Int.toNat (Su.Tm.c x16)) 0) : Nat) : Int)))])])) 549755813888)) then
  some (.inl ((List.take (Int.toNat ((((List.length p5001.1) : Nat) : Int) - 1)) (List.drop 1 p5001.1)), ((List.take (Int.toNat ((((List.length p5001.2.1) : Nat) : Int) - 1)) (List.drop 1 p5001.2.1)), ((List.length (p5001.2.2.2.2.1 ++ [(T.agg [(T.s (.int .i64 (Su.Tm.id x14))), (T.s (.int .u64 (((Su.addN (Int.toNat (Su.Tm.c x15)) (Int.toNat (Su.Tm.c x16)) 0) : Nat) : Int)))])])), ((((Su.upS 0 [p5001.2.2.2.1, (((Su.addN (Int.toNat (((Su.addN (Int.toNat (Su.Tm.c x15)) (Int.toNat (Su.Tm.c x16)) 1) : Nat) : Int)) (Int.toNat (((Su.negF (Int.toNat (((Su.addN (Int.toNat (Su.Tm.c x15)) (Int.toNat (Su.Tm.c x16)) 2) : Nat) : Int))) : Nat) : Int)) 1) : Nat) : Int)]) : Nat) : Int), ((p5001.2.2.2.2.1 ++ [(T.agg [(T.s (.int .i64 (Su.Tm.id x14))), (T.s (.int .u64 (((Su.addN (Int.toNat (Su.Tm.c x15)) (Int.toNat (Su.Tm.c x16)) 0) : Nat) : Int)))])]), ()))))))
 else
  none)))
 else
  none)
 else
  none)) : Option (aSum_l1_S ⊕ aSum_l1_S))
def aSum_l1_c2 :=
  fun (p5002 : aSum_l1_S) x5003 x5004 =>
  (bif (true && ((true && (decide ((1 ≤ (((List.length p5002.1) : Nat) : Int))))) && (decide (((((List.length p5002.1) : Nat) : Int) ≤ (((List.length p5002.1) : Nat) : Int)))))) then
  (bif (decide (((Su.Tm.c x5003) = 0))) then
  (bif ((true && (Nat.beq p5002.2.2.1 (List.length p5002.2.2.2.2.1))) && (Nat.ble ((List.length p5002.2.2.2.2.1) + (List.length [(T.agg [(T.s (.int .i64 (Su.Tm.id x5004))), (T.s (.int .u64 0))])])) 549755813888)) then
  some (.inl ((List.take (Int.toNat ((((List.length p5002.1) : Nat) : Int) - 1)) (List.drop 1 p5002.1)), (p5002.2.1, ((List.length (p5002.2.2.2.2.1 ++ [(T.agg [(T.s (.int .i64 (Su.Tm.id x5004))), (T.s (.int .u64 0))])])), (p5002.2.2.2.1, ((p5002.2.2.2.2.1 ++ [(T.agg [(T.s (.int .i64 (Su.Tm.id x5004))), (T.s (.int .u64 0))])]), ()))))))
 else
  none)
 else
  (bif ((true && (Nat.beq p5002.2.2.1 (List.length p5002.2.2.2.2.1))) && (Nat.ble ((List.length p5002.2.2.2.2.1) + (List.length [(T.agg [(T.s (.int .i64 (Su.Tm.id x5004))), (T.s (.int .u64 (Su.Tm.c x5003)))])])) 549755813888)) then
  some (.inl ((List.take (Int.toNat ((((List.length p5002.1) : Nat) : Int) - 1)) (List.drop 1 p5002.1)), (p5002.2.1, ((List.length (p5002.2.2.2.2.1 ++ [(T.agg [(T.s (.int .i64 (Su.Tm.id x5004))), (T.s (.int .u64 (Su.Tm.c x5003)))])])), (p5002.2.2.2.1, ((p5002.2.2.2.2.1 ++ [(T.agg [(T.s (.int .i64 (Su.Tm.id x5004))), (T.s (.int .u64 (Su.Tm.c x5003)))])]), ()))))))
 else
  none))
 else
  none : Option (aSum_l1_S ⊕ aSum_l1_S))
def aSum_l1_c5 :=
  fun (p5011 : aSum_l1_S) =>
  bif (decide (((((List.length p5011.2.1) : Nat) : Int) = 0))) then
  ((Su.idx p5011.1 0)).bind fun x2 =>
  ((Su.idx p5011.1 0)).bind fun x3 =>
  (aSum_l1_c2 p5011 x3 x2)
 else
  (bif (decide ((0 < (((List.length p5011.1) : Nat) : Int)))) then
  ((Su.idx p5011.1 0)).bind fun x4 =>
  ((Su.idx p5011.2.1 0)).bind fun x5 =>
  (bif (decide (((Su.Tm.id x4) < (Su.Tm.id x5)))) then
  ((Su.idx p5011.1 0)).bind fun x6 =>
  ((Su.idx p5011.1 0)).bind fun x7 =>
  (aSum_l1_c2 p5011 x7 x6)
 else
  (aSum_l1_c1 p5011))
 else
  (aSum_l1_c1 p5011))
def aSum_l1 : aSum_l1_S → Option (aSum_l1_S ⊕ aSum_l1_S) := fun p1 => (bif (decide ((0 < (((List.length p1.1) : Nat) : Int)))) then
  (aSum_l1_c5 p1)
 else
  (bif (decide ((0 < (((List.length p1.2.1) : Nat) : Int)))) then
  (aSum_l1_c5 p1)
 else
  some (.inr (p1.1, (p1.2.1, (p1.2.2.1, (p1.2.2.2.1, (p1.2.2.2.2.1, ()))))))))
def aSum  (fu : Nat) (a : (Bool × (Int × ((List Su.Tm) × Int)))) (b : (Bool × (Int × ((List Su.Tm) × Int)))) : Option (Bool × (Int × ((List Su.Tm) × Int))) :=
  (bif (List.any [(a.1, (a.2.1, (a.2.2.1, a.2.2.2))), (b.1, (b.2.1, (b.2.2.1, b.2.2.2)))] (fun z0 => (z0.1 || (!(Su.mayF z0))))) then
  some (true, ((0 : Int), ([], (0 : Int))))
 else
  (itP fu (aSum_l1) (a.2.2.1, (b.2.2.1, (0, ((((Su.upS 0 [a.2.2.2, b.2.2.2, (((Su.addN (Int.toNat (((Su.addN (Int.toNat a.2.1) (Int.toNat b.2.1) 1) : Nat) : Int)) (Int.toNat (((Su.negF (Int.toNat (((Su.addN (Int.toNat a.2.1) (Int.toNat b.2.1) 2) : Nat) : Int))) : Nat) : Int)) 1) : Nat) : Int)]) : Nat) : Int), ([], ())))))).bind fun x50 =>
  (bif (true && (Nat.beq x50.2.2.1 (List.length x50.2.2.2.2.1))) then
  ((((((Su.unTms x50.2.2.2.2.1)).bind fun x51 =>
  some (x51, x50.2.2.2.1)).bind fun x52 =>
  some ((((Su.addN (Int.toNat a.2.1) (Int.toNat b.2.1) 0) : Nat) : Int), x52)).bind fun x53 =>
  some (false, x53)).bind fun x54 =>
  some (Su.doneF x54)).bind fun x55 =>
  some (x55.1, (x55.2.1, (x55.2.2.1, x55.2.2.2)))
 else
  none))
set_option linter.unusedSimpArgs false
def addI (a b m : Int) : Int := ((addN a.toNat b.toNat m : Nat) : Int)
def mulI (a b m : Int) : Int := ((mulN a.toNat b.toNat m : Nat) : Int)
def upI (l : List Int) : Int := ((upS 0 l : Nat) : Int)
def slkA (x y : Int) : Int := addI (addI x y 1) (negI (addI x y 2)) 1
def slkM (x y : Int) : Int := addI (mulI x y 1) (negI (mulI x y 2)) 1
def stepM (id : Int) (r : Int × Int) (g : Int → List Tm × Int) : List Tm × Int := (⟨id, r.1⟩ :: (g r.2).1, (g r.2).2)
def mergeN (f : Int → Int → Int → Int × Int) : Nat → List Tm → List Tm → Int → List Tm × Int
  | 0, _, _, e => ([], e)
  | _ + 1, [], [], e => ([], e)
  | n + 1, a :: l, [], e => stepM a.id (f e a.c 0) (mergeN f n l [])
  | n + 1, [], b :: m, e => stepM b.id (f e 0 b.c) (mergeN f n [] m)
  | n + 1, a :: l, b :: m, e => bif decide (a.id < b.id) then stepM a.id (f e a.c 0) (mergeN f n l (b :: m)) else bif decide (b.id < a.id) then stepM b.id (f e 0 b.c) (mergeN f n (a :: l) m) else stepM a.id (f e a.c b.c) (mergeN f n l m)
def sumD (e x y : Int) : Int × Int := bif decide (x = 0) then (y, e) else bif decide (y = 0) then (x, e) else (addI x y 0, upI [e, slkA x y])
def addO' (a b : Fm) : Fm := bif okF a && okF b then (let r := mergeN sumD (a.2.2.1.length + b.2.2.1.length) a.2.2.1 b.2.2.1 (upI [a.2.2.2, b.2.2.2, slkA a.2.1 b.2.1]); doneF (false, (addI a.2.1 b.2.1 0, (r.1, r.2)))) else badF
def addFmL : {f : Fm → Fm → Fm // ∀ a b, f a b = addO' a b} := Classical.choice ⟨⟨_, fun _ _ => rfl⟩⟩
def addFm (a b : Fm) : Fm := addFmL.1 a b
theorem addFm_eq (a b : Fm) : addFm a b = addO' a b := addFmL.2 a b
theorem hpos (n : Nat) : decide (0 < ((n + 1 : Nat) : Int)) = true := decide_eq_true (by omega)
theorem hz0 : decide (((0 : Nat) : Int) = 0) = true := rfl
theorem hnz (n : Nat) : decide (((n + 1 : Nat) : Int) = 0) = false := decide_eq_false (by omega)
theorem hp0 : decide (0 < ((0 : Nat) : Int)) = false := rfl
theorem hge1 (n : Nat) : decide (1 ≤ ((n + 1 : Nat) : Int)) = true := decide_eq_true (by omega)
theorem hle (n : Int) : decide (n ≤ n) = true := decide_eq_true (by omega)
theorem idx0 {α : Type} (x : α) (l : List α) : idx (x :: l) 0 = some x := rfl
theorem takeL {α : Type} (x : α) (l : List α) : List.take (Int.toNat (((l.length + 1 : Nat) : Int) - 1)) (List.drop 1 (x :: l)) = l := by
  rw [show Int.toNat (((l.length + 1 : Nat) : Int) - 1) = l.length by omega]
  exact List.take_length
theorem mapS (A : List Tm) (i c : Int) : A.map vT ++ [T.agg [T.s (.int .i64 i), T.s (.int .u64 c)]] = (A ++ [(⟨i, c⟩ : Tm)]).map vT := by simp; rfl
theorem lenS (A : List Tm) (t : Tm) : ((A ++ [t]).map vT).length = (A ++ [t]).length := by simp
theorem sum_loop : ∀ (n : Nat) (l m : List Tm) (e : Int) (A : List Tm), l.length + m.length ≤ n → A.length + n ≤ 549755813888 →
    ∃ fu, itP fu aSum_l1 (l, (m, (A.length, (e, (A.map vT, ()))))) = some ([], ([], ((A ++ (mergeN sumD n l m e).1).length, ((mergeN sumD n l m e).2, ((A ++ (mergeN sumD n l m e).1).map vT, ())))))
  | 0, l, m, e, A, h, hA => by
    have h1 : l = [] := List.length_eq_zero_iff.1 (by omega)
    have h2 : m = [] := List.length_eq_zero_iff.1 (by omega)
    subst h1 h2
    refine ⟨1, ?_⟩
    rw [itP_s]
    simp only [aSum_l1, aSum_l1_c5, aSum_l1_c2, aSum_l1_c1, aSum_l1_c4, aSum_l1_c3, List.length_nil, hp0, cond_false, Option.bind_some, mergeN, List.append_nil]
  | n + 1, l, m, e, A, h, hA => by
    have hb : Nat.ble (A.length + 1) 549755813888 = true := Nat.ble_eq_true_of_le (by omega)
    have go : ∀ (l' m' : List Tm) (e' id c : Int), l'.length + m'.length ≤ n →
        aSum_l1 (l, (m, (A.length, (e, (A.map vT, ()))))) = some (.inl (l', (m', ((A ++ [(⟨id, c⟩ : Tm)]).length, (e', ((A ++ [(⟨id, c⟩ : Tm)]).map vT, ())))))) →
        mergeN sumD (n + 1) l m e = stepM id (c, e') (mergeN sumD n l' m') →
        ∃ fu, itP fu aSum_l1 (l, (m, (A.length, (e, (A.map vT, ()))))) = some ([], ([], ((A ++ (mergeN sumD (n + 1) l m e).1).length, ((mergeN sumD (n + 1) l m e).2, ((A ++ (mergeN sumD (n + 1) l m e).1).map vT, ()))))) := by
      intro l' m' e' id c hl' hstep hm
      obtain ⟨fu, q⟩ := sum_loop n l' m' e' (A ++ [⟨id, c⟩]) hl' (by simp; omega)
      refine ⟨fu + 1, ?_⟩
      rw [itP_s, hstep, hm]
      simp only [Option.bind_some, stepM]
      rw [q]
      simp only [List.append_assoc, List.singleton_append]
    match l, m, h with
    | [], [], h =>
      refine ⟨1, ?_⟩
      rw [itP_s]
      simp only [aSum_l1, aSum_l1_c5, aSum_l1_c2, aSum_l1_c1, aSum_l1_c4, aSum_l1_c3, List.length_nil, hp0, cond_false, Option.bind_some, mergeN, List.append_nil]
    | x :: l, [], h =>
      simp only [List.length_cons, List.length_nil] at h
      cases hx : decide (x.c = 0) with
      | true =>
        have hx' := of_decide_eq_true hx
        refine go l [] e x.id 0 (by simp; omega) ?_ ?_
        · simp only [aSum_l1, aSum_l1_c5, aSum_l1_c2, aSum_l1_c1, aSum_l1_c4, aSum_l1_c3, List.length_cons, List.length_nil, hpos, hz0, hnz, hp0, hge1, hle, idx0, takeL, hx, hb, List.length_map, beq_self, Bool.and_true, Bool.true_and, cond_true, cond_false, Option.bind_some, mapS, lenS]
        · simp only [mergeN, sumD, hx, cond_true]
      | false =>
        refine go l [] e x.id x.c (by simp; omega) ?_ ?_
        · simp only [aSum_l1, aSum_l1_c5, aSum_l1_c2, aSum_l1_c1, aSum_l1_c4, aSum_l1_c3, List.length_cons, List.length_nil, hpos, hz0, hnz, hp0, hge1, hle, idx0, takeL, hx, hb, List.length_map, beq_self, Bool.and_true, Bool.true_and, cond_true, cond_false, Option.bind_some, mapS, lenS]
        · simp only [mergeN, sumD, hx, cond_false]; rfl
    | [], y :: m, h =>
      simp only [List.length_cons, List.length_nil] at h
      refine go [] m e y.id y.c (by simp; omega) ?_ ?_
      · simp only [aSum_l1, aSum_l1_c5, aSum_l1_c2, aSum_l1_c1, aSum_l1_c4, aSum_l1_c3, List.length_cons, List.length_nil, hpos, hz0, hnz, hp0, hge1, hle, idx0, takeL, hb, List.length_map, beq_self, Bool.and_true, Bool.true_and, cond_true, cond_false, Option.bind_some, mapS, lenS]
      · simp only [mergeN, sumD]; rfl
    | x :: l, y :: m, h =>
      simp only [List.length_cons] at h
      cases h1 : decide (x.id < y.id) with
      | true =>
        cases hx : decide (x.c = 0) with
        | true =>
          refine go l (y :: m) e x.id 0 (by simp; omega) ?_ ?_
          · simp only [aSum_l1, aSum_l1_c5, aSum_l1_c2, aSum_l1_c1, aSum_l1_c4, aSum_l1_c3, List.length_cons, List.length_nil, hpos, hz0, hnz, hp0, hge1, hle, idx0, takeL, h1, hx, hb, List.length_map, beq_self, Bool.and_true, Bool.true_and, cond_true, cond_false, Option.bind_some, mapS, lenS]
          · simp only [mergeN, h1, sumD, hx, cond_true]
        | false =>
          refine go l (y :: m) e x.id x.c (by simp; omega) ?_ ?_
          · simp only [aSum_l1, aSum_l1_c5, aSum_l1_c2, aSum_l1_c1, aSum_l1_c4, aSum_l1_c3, List.length_cons, List.length_nil, hpos, hz0, hnz, hp0, hge1, hle, idx0, takeL, h1, hx, hb, List.length_map, beq_self, Bool.and_true, Bool.true_and, cond_true, cond_false, Option.bind_some, mapS, lenS]
          · simp only [mergeN, h1, sumD, hx, cond_true, cond_false]; rfl
      | false =>
        cases h2 : decide (y.id < x.id) with
        | true =>
          refine go (x :: l) m e y.id y.c (by simp; omega) ?_ ?_
          · simp only [aSum_l1, aSum_l1_c5, aSum_l1_c2, aSum_l1_c1, aSum_l1_c4, aSum_l1_c3, List.length_cons, List.length_nil, hpos, hz0, hnz, hp0, hge1, hle, idx0, takeL, h1, h2, hb, List.length_map, beq_self, Bool.and_true, Bool.true_and, cond_true, cond_false, Option.bind_some, mapS, lenS]
          · simp only [mergeN, h1, h2, sumD, cond_true, cond_false]; rfl
        | false =>
          cases hx : decide (x.c = 0) with
          | true =>
            refine go l m e x.id y.c (by omega) ?_ ?_
            · simp only [aSum_l1, aSum_l1_c5, aSum_l1_c2, aSum_l1_c1, aSum_l1_c4, aSum_l1_c3, List.length_cons, List.length_nil, hpos, hz0, hnz, hp0, hge1, hle, idx0, takeL, h1, h2, hx, hb, List.length_map, beq_self, Bool.and_true, Bool.true_and, cond_true, cond_false, Option.bind_some, mapS, lenS]
            · simp only [mergeN, h1, h2, sumD, hx, cond_true, cond_false]
          | false =>
            cases hy : decide (y.c = 0) with
            | true =>
              refine go l m e x.id x.c (by omega) ?_ ?_
              · simp only [aSum_l1, aSum_l1_c5, aSum_l1_c2, aSum_l1_c1, aSum_l1_c4, aSum_l1_c3, List.length_cons, List.length_nil, hpos, hz0, hnz, hp0, hge1, hle, idx0, takeL, h1, h2, hx, hy, hb, List.length_map, beq_self, Bool.and_true, Bool.true_and, cond_true, cond_false, Option.bind_some, mapS, lenS]
              · simp only [mergeN, h1, h2, sumD, hx, hy, cond_true, cond_false]
            | false =>
              refine go l m (upI [e, slkA x.c y.c]) x.id (addI x.c y.c 0) (by omega) ?_ ?_
              · simp only [aSum_l1, aSum_l1_c5, aSum_l1_c2, aSum_l1_c1, aSum_l1_c4, aSum_l1_c3, List.length_cons, List.length_nil, hpos, hz0, hnz, hp0, hge1, hle, idx0, takeL, h1, h2, hx, hy, hb, List.length_map, beq_self, Bool.and_true, Bool.true_and, cond_true, cond_false, Option.bind_some, mapS, lenS]
                rfl
              · simp only [mergeN, h1, h2, sumD, hx, hy, cond_true, cond_false]
def aSum_s (p : Fm × Fm) : Option Fm := bif Nat.ble (p.1.2.2.1.length + p.2.2.2.1.length) 549755813888 then some (addFm p.1 p.2) else none
theorem aSum_ok (p : Fm × Fm) (y : Fm) (hg : (dc cFrm (d1 cFrm)).good p) (h : aSum_s p = some y) : ∃ n, aSum n p.1 p.2 = some y := by
  obtain ⟨⟨b1, m1, l1, e1⟩, b2, m2, l2, e2⟩ := p
  obtain ⟨h1, h2⟩ := bif_some h
  have := soi h2; subst this
  have hl : l1.length + l2.length ≤ 549755813888 := Nat.le_of_ble_eq_true h1
  have ha : List.any [((b1, (m1, (l1, e1))) : Fm), (b2, (m2, (l2, e2)))] (fun z0 => (z0.1 || (!(Su.mayF z0)))) = !(okF (b1, (m1, (l1, e1))) && okF (b2, (m2, (l2, e2)))) := by simp [okF]
  obtain ⟨n, q⟩ := sum_loop _ l1 l2 (upI [e1, e2, slkA m1 m2]) [] (Nat.le_refl _) (by simpa using hl)
  refine ⟨n, ?_⟩
  rw [addFm_eq]
  unfold aSum addO'
  simp only []
  rw [ha]
  cases (okF (b1, (m1, (l1, e1))) && okF (b2, (m2, (l2, e2)))) with
  | false => rfl
  | true =>
    rw [Bool.not_true, cond_false, cond_true]
    refine obs q ?_
    simp only [List.nil_append, List.length_map, beq_self, Bool.and_true, cond_true]
    exact obs (obs (obs (obs (obs (unTms_map _) rfl) rfl) rfl) rfl) rfl
end
end Su
end
section
namespace Su
open Go Fly
set_option linter.unusedVariables false
noncomputable section
def aSub  (a : (Bool × (Int × ((List Su.Tm) × Int)))) (b : (Bool × (Int × ((List Su.Tm) × Int)))) : Option (Bool × (Int × ((List Su.Tm) × Int))) :=
  ((Su.aNeg_s (b.1, (b.2.1, (b.2.2.1, b.2.2.2))))).bind fun x0 =>
  ((Su.aSum_s ((a.1, (a.2.1, (a.2.2.1, a.2.2.2))), (x0.1, (x0.2.1, (x0.2.2.1, x0.2.2.2)))))).bind fun x1 =>
  some (x1.1, (x1.2.1, (x1.2.2.1, x1.2.2.2)))
def subFm (a b : Fm) : Fm := addFm a (negFm b)
def aSub_s (p : Fm × Fm) : Option Fm := bif lenOK p.2.2.2.1 && Nat.ble (p.1.2.2.1.length + (negFm p.2).2.2.1.length) 549755813888 then some (subFm p.1 p.2) else none
theorem aSub_ok (p : Fm × Fm) (y : Fm) (hg : (dc cFrm (d1 cFrm)).good p) (h : aSub_s p = some y) : aSub p.1 p.2 = some y := by
  obtain ⟨⟨b1, m1, l1, e1⟩, b2, m2, l2, e2⟩ := p
  obtain ⟨h1, h2⟩ := bif_some h
  have := soi h2; subst this
  simp only [Bool.and_eq_true] at h1
  have h3 : lenOK l2 = true := h1.1
  have h4 : Nat.ble (l1.length + (negFm (b2, (m2, (l2, e2)))).2.2.1.length) 549755813888 = true := h1.2
  unfold aSub aNeg_s aSum_s
  simp only [h3, cond_true, Option.bind_some, h4]
  rfl
end
end Su
end
section
namespace Su
open Go Fly
set_option linter.unusedVariables false
noncomputable section
def spAt  (a : Int) (b : Int) : Option Bool :=
  (bif (Su.cmpO (Int.toNat a) (Int.toNat b)) then
  some (decide (((Su.cmpC (Int.toNat a) (Int.toNat b)) ≤ 0)))
 else
  some false)
def leF (a b : Int) : Bool := cmpO a.toNat b.toNat && decide (cmpC a.toNat b.toNat ≤ 0)
def spAt_s (p : Int × Int) : Option Bool := some (leF p.1 p.2)
theorem spAt_ok (p : Int × Int) (y : Bool) (hg : (dc (cI .u64) (d1 (cI .u64))).good p) (h : spAt_s p = some y) : spAt p.1 p.2 = some y := by
  have := soi h; subst this
  unfold spAt leF
  cases cmpO p.1.toNat p.2.toNat <;> rfl
end
end Su
end
section
namespace Su
open Go Fly
set_option linter.unusedVariables false
noncomputable section
abbrev spNorm_l1_S := (Nat × (Int × (Int × (Bool × (Int × (Int × (Bool × (Int × (Int × Unit)))))))))
def spNorm_l1 : spNorm_l1_S → Option (spNorm_l1_S ⊕ spNorm_l1_S) := fun p0 => (bif (decide ((p0.2.2.1 < p0.2.1))) then
  (bif (true && (true && ((decide ((0 ≤ p0.2.2.1))) && (decide ((p0.2.2.1 < ((p0.1 : Nat) : Int))))))) then
  (bif (Nat.beq (Int.toNat p0.2.2.1) 0) then
  (bif (decide (((((Su.clsK (Su.bK (Int.toNat p0.2.2.2.2.1))) : Nat) : Int) = 0))) then
  some (.inl (p0.1, (p0.2.1, ((Go.IntKind.wrap .i64 (p0.2.2.1 + 1)), (p0.2.2.2.1, ((0 : Int), (p0.2.2.2.2.2.1, (p0.2.2.2.2.2.2.1, (p0.2.2.2.2.2.2.2.1, (p0.2.2.2.2.2.2.2.2.1, ()))))))))))
 else
  some (.inl (p0.1, (p0.2.1, ((Go.IntKind.wrap .i64 (p0.2.2.1 + 1)), (p0.2.2.2.1, (p0.2.2.2.2.1, (p0.2.2.2.2.2.1, (p0.2.2.2.2.2.2.1, (p0.2.2.2.2.2.2.2.1, (p0.2.2.2.2.2.2.2.2.1, ())))))))))))
 else
  (bif (Nat.beq ((Int.toNat p0.2.2.1) - 1) 0) then
  (bif (decide (((((Su.clsK (Su.bK (Int.toNat p0.2.2.2.2.2.1))) : Nat) : Int) = 0))) then
  some (.inl (p0.1, (p0.2.1, ((Go.IntKind.wrap .i64 (p0.2.2.1 + 1)), (p0.2.2.2.1, (p0.2.2.2.2.1, ((0 : Int), (p0.2.2.2.2.2.2.1, (p0.2.2.2.2.2.2.2.1, (p0.2.2.2.2.2.2.2.2.1, ()))))))))))
 else
  some (.inl (p0.1, (p0.2.1, ((Go.IntKind.wrap .i64 (p0.2.2.1 + 1)), (p0.2.2.2.1, (p0.2.2.2.2.1, (p0.2.2.2.2.2.1, (p0.2.2.2.2.2.2.1, (p0.2.2.2.2.2.2.2.1, (p0.2.2.2.2.2.2.2.2.1, ())))))))))))
 else
  none))
 else
  none)
 else
  some (.inr (p0.1, (p0.2.1, (p0.2.2.1, (p0.2.2.2.1, (p0.2.2.2.2.1, (p0.2.2.2.2.2.1, (p0.2.2.2.2.2.2.1, (p0.2.2.2.2.2.2.2.1, (p0.2.2.2.2.2.2.2.2.1, ())))))))))))
def spNorm  (fu : Nat) (s : (Bool × (Int × Int))) : Option (Bool × (Int × Int)) :=
  (bif s.1 then
  some (true, ((0 : Int), (0 : Int)))
 else
  (bif (!(Su.leF s.2.1 s.2.2)) then
  some (true, ((0 : Int), (0 : Int)))
 else
  (bif (decide ((s.2.1 = ((9218868437227405312 : Nat) : Int)))) then
  some (true, ((0 : Int), (0 : Int)))
 else
  (bif (decide ((s.2.2 = ((18442240474082181120 : Nat) : Int)))) then
  some (true, ((0 : Int), (0 : Int)))
 else
  (itP fu (spNorm_l1) (2, ((2 : Int), ((0 : Int), (s.1, (s.2.1, (s.2.2, (false, ((0 : Int), ((0 : Int), ())))))))))).bind fun x1 =>
  some (x1.2.2.2.1, (x1.2.2.2.2.1, x1.2.2.2.2.2.1))))))
abbrev Spn := Bool × (Int × Int)
def noneS : Spn := (true, (0, 0))
def normS (s : Spn) : Spn := bif s.1 || (!leF s.2.1 s.2.2 || (decide (s.2.1 = 9218868437227405312) || decide (s.2.2 = 18442240474082181120))) then noneS else (s.1, (nzI s.2.1, nzI s.2.2))
def spNorm_s (s : Spn) : Option Spn := some (normS s)
theorem spNorm_ok (s y : Spn) (hg : (d1 cSpn).good s) (h : spNorm_s s = some y) : ∃ n, spNorm n s = some y := by
  obtain ⟨e, lo, hi⟩ := s
  have := soi h; subst this
  refine ⟨3, ?_⟩
  unfold spNorm normS nzI zI
  have hz : ∀ f : Int, decide (((clsK (bK (Int.toNat f)) : Nat) : Int) = 0) = Nat.beq (bK (Int.toNat f)) 0 := fun f => cls_zero _
  have w1 : IntKind.i64.wrap 1 = 1 := by decide
  have w2 : IntKind.i64.wrap 2 = 2 := by decide
  simp only [itP_s, spNorm_l1, hz]
  cases e with
  | true => rfl
  | false =>
    cases leF lo hi with
    | false => rfl
    | true =>
      cases h1 : decide (lo = 9218868437227405312) with
      | true => simp [h1]; rfl
      | false =>
        cases h2 : decide (hi = 18442240474082181120) with
        | true => simp [h1, h2]; rfl
        | false =>
          cases h3 : Nat.beq (bK (Int.toNat lo)) 0 <;> cases h4 : Nat.beq (bK (Int.toNat hi)) 0 <;> (simp [h1, h2, h3, h4, w1, w2]; try rfl)
end
end Su
end
section
end
section
namespace Su
open Go Fly
def valB : List Bool → Nat
  | [] => 0
  | b :: l => b.toNat + 2 * valB l
theorem valB_app : ∀ (a b : List Bool), valB (a ++ b) = valB a + 2 ^ a.length * valB b
  | [], b => by simp [valB]
  | x :: a, b => by
    simp only [List.cons_append, valB, valB_app a b, List.length_cons, Nat.pow_succ, Nat.mul_add]
    rw [← Nat.mul_assoc, Nat.mul_comm 2 (2 ^ a.length)]; omega
theorem valB_lt : ∀ (a : List Bool), valB a < 2 ^ a.length
  | [] => by simp [valB]
  | x :: a => by
    have := valB_lt a
    simp only [valB, List.length_cons, Nat.pow_succ]
    have hx : x.toNat ≤ 1 := by cases x <;> decide
    omega
theorem valB_rep (n : Nat) : valB (List.replicate n false) = 0 := by
  induction n with
  | zero => rfl
  | succ n ih => simp [List.replicate_succ, valB, ih]
theorem valB_take {a : List Bool} {n : Nat} (h : n < a.length) : valB (a.take (n + 1)) = valB (a.take n) + 2 ^ n * a[n].toNat := by
  rw [List.take_succ_eq_append_getElem h, valB_app, List.length_take, Nat.min_eq_left (Nat.le_of_lt h)]
  simp [valB]
abbrev eB (b : Bool) : T := T.s (.bool b)
theorem unviews_b (l : List Bool) : unviews 4 (l.map eB) = some l := unviews_map (u := 4) (by decide) l
def bitsB : Nat → Nat → List Bool
  | 0, _ => []
  | k + 1, n => (n % 2 == 1) :: bitsB k (n / 2)
theorem bitsB_len : ∀ (k n : Nat), (bitsB k n).length = k
  | 0, _ => rfl
  | k + 1, n => by simp [bitsB, bitsB_len k]
theorem bitsB_val : ∀ (k n : Nat), valB (bitsB k n) = n % 2 ^ k
  | 0, n => by simp [bitsB, valB, Nat.mod_one]
  | k + 1, n => by
    simp only [bitsB, valB, bitsB_val k]
    have h1 : (n % 2 == 1).toNat = n % 2 := by rcases Nat.mod_two_eq_zero_or_one n with h | h <;> rw [h] <;> rfl
    rw [h1, Nat.pow_succ', Nat.mod_mul]
end Su
end
section
namespace Su
open Go Fly
set_option linter.unusedVariables false
noncomputable section
def bBit  (a : (List Bool)) (i : Int) : Option Bool :=
  (bif (decide ((0 ≤ i))) then
  (bif (decide ((i < (((List.length a) : Nat) : Int)))) then
  ((Su.idx a i)).bind fun x0 =>
  some x0
 else
  some false)
 else
  some false)
def bLen_l1 : ((List Bool) × (Int × Unit)) → Option (((List Bool) × (Int × Unit)) ⊕ ((List Bool) × (Int × Unit))) := fun p0 => (bif (decide ((0 < p0.2.1))) then
  ((Su.idx p0.1 (Go.IntKind.wrap .i64 (p0.2.1 - 1)))).bind fun x1 =>
  (bif (!x1) then
  some (.inl (p0.1, ((Go.IntKind.wrap .i64 (p0.2.1 - 1)), ())))
 else
  some (.inr (p0.1, (p0.2.1, ()))))
 else
  some (.inr (p0.1, (p0.2.1, ()))))
def bLen  (fu : Nat) (a : (List Bool)) : Option Int :=
  (itP fu (bLen_l1) (a, ((((List.length a) : Nat) : Int), ()))).bind fun x2 =>
  some x2.2.1
def bShl_l1 : ((List Bool) × (Int × (Nat × (Int × ((List Su.T) × Unit))))) → Option (((List Bool) × (Int × (Nat × (Int × ((List Su.T) × Unit))))) ⊕ ((List Bool) × (Int × (Nat × (Int × ((List Su.T) × Unit)))))) := fun p0 => (bif (decide ((p0.2.2.2.1 < p0.2.1))) then
  (bif ((true && (Nat.beq p0.2.2.1 (List.length p0.2.2.2.2.1))) && (Nat.ble ((List.length p0.2.2.2.2.1) + 1) 549755813888)) then
  some (.inl (p0.1, (p0.2.1, ((List.length (p0.2.2.2.2.1 ++ [(T.s (.bool false))])), ((Go.IntKind.wrap .i64 (p0.2.2.2.1 + 1)), ((p0.2.2.2.2.1 ++ [(T.s (.bool false))]), ()))))))
 else
  none)
 else
  some (.inr (p0.1, (p0.2.1, (p0.2.2.1, (p0.2.2.2.1, (p0.2.2.2.2.1, ())))))))
def bShl  (fu : Nat) (a : (List Bool)) (n : Int) : Option (List Bool) :=
  (itP fu (bShl_l1) (a, (n, (0, ((0 : Int), ([], ())))))).bind fun x1 =>
  (bif ((true && (Nat.beq x1.2.2.1 (List.length x1.2.2.2.2.1))) && (Nat.ble ((List.length x1.2.2.2.2.1) + (List.length (List.map (fun z2 => (T.s (.bool z2))) x1.1))) 549755813888)) then
  ((Su.sub (x1.2.2.2.2.1 ++ (List.map (fun z3 => (T.s (.bool z3))) x1.1)) 0 (List.length (x1.2.2.2.2.1 ++ (List.map (fun z4 => (T.s (.bool z4))) x1.1))))).bind fun x5 =>
  (Su.unviews 4 x5)
 else
  none)
def bitB (a : List Bool) (i : Int) : Bool := bif decide (0 ≤ i) then (a[i.toNat]?).getD false else false
def bBit_s (p : List Bool × Int) : Option Bool := some (bitB p.1 p.2)
theorem bBit_ok (p : List Bool × Int) (y : Bool) (hg : (dc (cQ 4 1) (d1 (cI .i64))).good p) (h : bBit_s p = some y) : bBit p.1 p.2 = some y := by
  obtain ⟨a, i⟩ := p
  have := soi h; subst this
  unfold bBit bitB
  simp only []
  by_cases h0 : 0 ≤ i
  · obtain ⟨n, rfl⟩ : ∃ n : Nat, i = (n : Int) := ⟨i.toNat, by omega⟩
    rw [decide_eq_true h0, cond_true, cond_true, idx_nat, Int.toNat_natCast]
    by_cases h1 : n < a.length
    · rw [decide_eq_true (by omega), cond_true, List.getElem?_eq_getElem h1]; rfl
    · rw [decide_eq_false (by omega), cond_false, List.getElem?_eq_none (by omega)]; rfl
  · rw [decide_eq_false h0, cond_false, cond_false]
theorem sub_allB (l : List Bool) : sub (l.map eB) 0 (l.map eB).length = some (l.map eB) := by
  unfold sub
  rw [show Nat.ble (0 + (l.map eB).length) (l.map eB).length = true by rw [Nat.ble_eq]; omega]
  rw [cond_true, List.drop_zero, List.take_of_length_le (Nat.le_refl _)]
def bLen_s (a : List Bool) : Option Int := some (blen (valB a) : Int)
theorem blenB_loop (a : List Bool) (hl : a.length ≤ 9223372036854775807) : ∀ n : Nat, n ≤ a.length → ∃ f, itP f bLen_l1 (a, ((n : Int), ())) = some (a, (((blen (valB (a.take n)) : Nat) : Int), ()))
  | 0, _ => it_end (by simp [bLen_l1, valB, blen])
  | n + 1, h => by
    have e1 : IntKind.i64.wrap (((n + 1 : Nat) : Int) - 1) = (n : Int) := by rw [w64 (by omega) (by omega)]; omega
    have hn : n < a.length := by omega
    have hi : idx a (n : Int) = some a[n] := by rw [idx_nat, List.getElem?_eq_getElem hn]
    have hlt : valB (a.take n) < 2 ^ n := by
      have := valB_lt (a.take n)
      rwa [List.length_take, Nat.min_eq_left (by omega)] at this
    rw [valB_take hn]
    cases hb : a[n] with
    | false =>
      obtain ⟨f, hf⟩ := blenB_loop a hl n (by omega)
      refine it_next (s' := (a, ((n : Int), ()))) ?_ ⟨f, by rw [hf]; simp⟩
      simp only [bLen_l1]
      rw [decide_eq_true (by omega), cond_true, e1, hi, Option.bind_some, hb]; rfl
    | true =>
      have : blen (valB (a.take n) + 2 ^ n * true.toNat) = n + 1 := blen_of (by simp) (by rw [Nat.pow_succ]; simp; omega)
      rw [this]
      refine it_end ?_
      simp only [bLen_l1]
      rw [decide_eq_true (by omega), cond_true, e1, hi, Option.bind_some, hb]; rfl
theorem bLen_ok (a : List Bool) (y : Int) (hg : (d1 (cQ 4 1)).good a) (h : bLen_s a = some y) : ∃ n, bLen n a = some y := by
  have := soi h; subst this
  have hl := hg.2
  rw [maxLen_eq] at hl
  obtain ⟨f, hf⟩ := blenB_loop a hl a.length (Nat.le_refl _)
  rw [List.take_length] at hf
  exact ⟨f, by unfold bLen; rw [hf]; rfl⟩
def bShl_s (p : List Bool × Int) : Option (List Bool) := bif Nat.ble (p.2.toNat + p.1.length) 549755813888 then some (List.replicate p.2.toNat false ++ p.1) else none
theorem shlB_loop (a : List Bool) (N : Nat) (hN : N ≤ 549755813888) : ∀ k i : Nat, i + k = N → ∃ f, itP f bShl_l1 (a, ((N : Int), (i, ((i : Int), ((List.replicate i false).map eB, ()))))) = some (a, ((N : Int), (N, ((N : Int), ((List.replicate N false).map eB, ())))))
  | 0, i, hk => by
    have : i = N := by omega
    subst this
    refine it_end ?_
    simp only [bShl_l1]
    rw [decide_eq_false (by omega), cond_false]
  | k + 1, i, hk => by
    obtain ⟨f, hf⟩ := shlB_loop a N hN k (i + 1) (by omega)
    refine it_next ?_ ⟨f, hf⟩
    simp only [bShl_l1]
    have h1 : Nat.beq i ((List.replicate i false).map eB).length = true := by rw [List.length_map, List.length_replicate]; exact Nat.beq_refl _
    have h2 : Nat.ble (((List.replicate i false).map eB).length + 1) 549755813888 = true := by rw [Nat.ble_eq, List.length_map, List.length_replicate]; omega
    have h3 : (List.replicate i false).map eB ++ [T.s (.bool false)] = (List.replicate (i + 1) false).map eB := by rw [List.replicate_succ', List.map_append]; rfl
    rw [decide_eq_true (by omega), cond_true, h1, h2, h3, w64 (by omega) (by omega)]
    simp only [Bool.and_self, cond_true, List.length_map, List.length_replicate]
    rfl
theorem bShl_ok (p : List Bool × Int) (y : List Bool) (hg : (dc (cQ 4 1) (d1 (cI .i64))).good p) (h : bShl_s p = some y) : ∃ n, bShl n p.1 p.2 = some y := by
  obtain ⟨a, n⟩ := p
  obtain ⟨hle, h⟩ := bif_some h
  have := soi h; subst this
  have hle := Nat.le_of_ble_eq_true hle
  simp only [] at hle ⊢
  have main : ∃ f, itP f bShl_l1 (a, (n, (0, ((0 : Int), (([] : List T), ()))))) = some (a, (n, (n.toNat, ((n.toNat : Int), ((List.replicate n.toNat false).map eB, ()))))) := by
    by_cases h0 : n < 0
    · have : n.toNat = 0 := by omega
      rw [this]
      refine it_end ?_
      simp only [bShl_l1]
      rw [decide_eq_false (by omega), cond_false]; rfl
    · obtain ⟨N, rfl⟩ : ∃ N : Nat, n = (N : Int) := ⟨n.toNat, by omega⟩
      rw [Int.toNat_natCast] at hle ⊢
      exact shlB_loop a N (by omega) N 0 (by omega)
  obtain ⟨f, hf⟩ := main
  refine ⟨f, ?_⟩
  unfold bShl
  rw [hf, Option.bind_some]
  simp only []
  have h1 : Nat.beq n.toNat ((List.replicate n.toNat false).map eB).length = true := by rw [List.length_map, List.length_replicate]; exact Nat.beq_refl _
  have e : List.map (fun z => T.s (.bool z)) a = a.map eB := rfl
  rw [h1, e]
  have h2 : Nat.ble (((List.replicate n.toNat false).map eB).length + (a.map eB).length) 549755813888 = true := by rw [Nat.ble_eq]; simp; omega
  rw [h2, ← List.map_append]
  have h3 := sub_allB (List.replicate n.toNat false ++ a)
  rw [h3]
  simp only [Bool.and_self, cond_true]
  exact unviews_b _
end
end Su
end
