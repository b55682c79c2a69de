/-
  Bits and rounding, in plain Lean. No condition.
-/
import Derived.Test.YtnegfdebjikfiaaGreatRcs
import Derived.Test.YtnegfdebjikfiaaGreatSuSd
import Derived.Test.YtnegfdebjikfiaaGreatND13
set_option maxRecDepth 10000
section
namespace Su
open Go Fly
theorem kV_1 : kV 1 = 1 := by
  have := kV_eq (q := 0) (w := 1) (by omega) (.inr rfl)
  simpa using this
theorem RN_nz {neg : Bool} {mode : Int} {M E : Nat} {rest : Bool} (hM : M ≠ 0) (hE : SH ≤ E) : nanK (bK (RN neg mode M E rest)) = false ∧ bK (RN neg mode M E rest) ≠ 0 := by
  have hf : 1 ≤ floorN M E := by
    refine (key_le hM).1 ?_
    rw [kV_1, Nat.one_mul]
    have h1 : 2 ^ SH ≤ 2 ^ E := Nat.pow_le_pow_right (by omega) hE
    have h2 := Nat.mul_le_mul (show 1 ≤ M by omega) h1
    omega
  unfold RN
  rw [beq0 hM, cond_false]
  generalize (upN neg mode (keepN M E % 2 == 1) (hfN M E) (rest || rsN M E)).toNat = u
  have h1 := finN_le (twN neg mode) (floorN M E + u)
  have h2 : 1 ≤ finN (twN neg mode) (floorN M E + u) := by
    unfold finN topN
    cases h : Nat.ble (floorN M E + u) 9218868437227405311 with
    | true => rw [cond_true]; omega
    | false => cases twN neg mode <;> simp
  rw [(bK_sg (by omega)).1]
  exact ⟨nanK_not.2 h1, by omega⟩
def Cln (r : Nat) : Prop := r = 9221120237041090560 ∨ r = 0 ∨ (nanK (bK r) = false ∧ bK r ≠ 0)
theorem addX_cln {nx ny : Bool} {X Y D : Nat} {ey : Int} (hX : X ≠ 0) (he : -1074 ≤ ey) (hle : Y ≤ 2 ^ D * X) : Cln (addX nx ny 1 X Y D ey) := by
  have hD := Nat.mul_le_mul (Nat.two_pow_pos D) (show 1 ≤ X by omega)
  unfold addX
  by_cases h : nx = ny
  · rw [if_pos h]
    exact .inr (.inr (RN_nz (by omega) (by rw [SH_eq]; omega)))
  · rw [if_neg h]
    by_cases h1 : 2 ^ D * X = Y
    · rw [if_pos h1]; exact .inr (.inl rfl)
    · rw [if_neg h1]
      exact .inr (.inr (RN_nz (by omega) (by rw [SH_eq]; omega)))
theorem kM_le_pow2 {i j : Nat} (hi : i ≤ 9218868437227405311) (hj : j ≤ 9218868437227405311) (h : kE j < kE i ∨ kE j = kE i ∧ kM j ≤ kM i) : kM j ≤ 2 ^ (kE i - kE j) * kM i := by
  obtain ⟨a1, a2, a3, a4⟩ := kM_facts hi
  obtain ⟨b1, b2, b3, b4⟩ := kM_facts hj
  rcases h with h | ⟨h1, h2⟩
  · have hp : 2 ^ 1 ≤ 2 ^ (kE i - kE j) := Nat.pow_le_pow_right (by omega) (by omega)
    have h4 := a4 (by omega)
    have := Nat.mul_le_mul hp h4
    omega
  · rw [h1, Nat.sub_self, Nat.pow_zero, Nat.one_mul]; exact h2
theorem addF_cln {a b : Nat} (ha : a < 18446744073709551616) (hm : a ≠ 9223372036854775808) : Cln (addF a b 1) := by
  unfold addF
  cases h1 : nanK (bK a) with
  | true => exact .inl rfl
  | false =>
  cases h2 : nanK (bK b) with
  | true => exact .inl rfl
  | false =>
  have h1' := nanK_not.1 h1
  have h2' := nanK_not.1 h2
  have cla : ∀ {f : Nat}, nanK (bK f) = false → bK f ≠ 0 → Cln f := fun h1 h2 => .inr (.inr ⟨h1, h2⟩)
  have nzi : ∀ {f : Nat}, infK (bK f) = true → bK f ≠ 0 := fun h e => by rw [e] at h; exact absurd h (by decide)
  simp only [cond_false]
  cases h3 : infK (bK a) with
  | true =>
    cases h4 : infK (bK b) with
    | true =>
      cases decide (bS a = bS b) with
      | true => exact cla h1 (nzi h3)
      | false => exact .inl rfl
    | false => exact cla h1 (nzi h3)
  | false =>
  cases h4 : infK (bK b) with
  | true => exact cla h2 (nzi h4)
  | false =>
  have i3 : bK a ≠ 9218868437227405312 := fun e => by unfold infK at h3; rw [e] at h3; simp at h3
  have i4 : bK b ≠ 9218868437227405312 := fun e => by unfold infK at h4; rw [e] at h4; simp at h4
  have fa : bK a ≤ 9218868437227405311 := by omega
  have fb : bK b ≤ 9218868437227405311 := by omega
  simp only [cond_false, Bool.false_and]
  cases h5 : Nat.beq (bK a) 0 with
  | true =>
    have z := Nat.eq_of_beq_eq_true h5
    have a0 : a = 0 := by unfold bK at z; omega
    cases h6 : Nat.beq (bK b) 0 with
    | true =>
      cases decide (bS a = bS b) with
      | true => exact .inr (.inl a0)
      | false => exact .inr (.inl rfl)
    | false =>
      show Cln b
      exact cla h2 (fun e => by rw [e] at h6; simp at h6)
  | false =>
  have za : bK a ≠ 0 := fun e => by rw [e] at h5; simp at h5
  cases h6 : Nat.beq (bK b) 0 with
  | true =>
    show Cln a
    exact cla h1 za
  | false =>
  have zb : bK b ≠ 0 := fun e => by rw [e] at h6; simp at h6
  have k1 := (kM_facts fa).2.1 za
  have k2 := (kM_facts fb).2.1 zb
  simp only [cond_false, Bool.false_and]
  unfold swapF addO
  by_cases h : kE (bK a) < kE (bK b) ∨ kE (bK a) = kE (bK b) ∧ kM (bK a) < kM (bK b)
  · have hs : (decide (kE (bK a) < kE (bK b)) || (decide (kE (bK a) = kE (bK b)) && decide (kM (bK a) < kM (bK b)))) = true := by
      rw [← Bool.decide_and, ← Bool.decide_or]; exact decide_eq_true h
    rw [hs, cond_true]
    exact addX_cln (by omega) (by omega) (kM_le_pow2 fb fa (by omega))
  · have hs : (decide (kE (bK a) < kE (bK b)) || (decide (kE (bK a) = kE (bK b)) && decide (kM (bK a) < kM (bK b)))) = false := by
      rw [← Bool.decide_and, ← Bool.decide_or]; exact decide_eq_false h
    rw [hs, cond_false]
    exact addX_cln (by omega) (by omega) (kM_le_pow2 fa fb (by omega))
theorem addF_0 {a : Nat} (h : Cln a) : addF 0 a 1 = a := by
  rcases h with rfl | rfl | ⟨h1, h2⟩
  · rfl
  · rfl
  · have h3 : Nat.beq (bK a) 0 = false := beq0 h2
    have e1 : nanK (bK 0) = false := rfl
    have e2 : infK (bK 0) = false := rfl
    have e3 : Nat.beq (bK 0) 0 = true := rfl
    unfold addF
    rw [e1, e2, e3, h1, h3]
    simp only [cond_false, cond_true, Bool.false_and, Bool.true_and]
    cases infK (bK a) <;> rfl
def Cle (e : Int) : Prop := Wd64 e ∧ e ≠ 9223372036854775808 ∧ addI 0 e 1 = e
theorem cle_add {x y : Int} (wx : Wd64 x) (wy : Wd64 y) (hx : x ≠ 9223372036854775808) : Cle (addI x y 1) := by
  have w := wd_add wx wy 1
  obtain ⟨X, rfl, hX⟩ := wx
  have hc : Cln (addF X y.toNat 1) := addF_cln hX (by omega)
  refine ⟨w, ?_, ?_⟩
  · unfold addI
    rw [addN_eq, Int.toNat_natCast]
    generalize addF X y.toNat 1 = r at *
    rcases hc with rfl | rfl | ⟨h1, h2⟩
    · omega
    · omega
    · intro e
      have : r = 9223372036854775808 := by omega
      subst this
      exact h2 rfl
  · have h := addF_0 hc
    unfold addI
    rw [addN_eq, addN_eq]
    simp only [Int.toNat_natCast]
    rw [show (0 : Int).toNat = 0 from rfl, h]
theorem cle_0 : Cle 0 := ⟨⟨0, rfl, by omega⟩, by omega, by unfold addI; rw [addN_eq]; rfl⟩
theorem cle_up {e s : Int} (h : Cle e) (w : Wd64 s) : upI [e, s] = addI e s 1 ∧ Cle (addI e s 1) := by
  refine ⟨?_, cle_add h.1 w h.2.1⟩
  have : upI [e, s] = addI (addI 0 e 1) s 1 := rfl
  rw [this, h.2.2]
theorem wd_slkA {x y : Int} (wx : Wd64 x) (wy : Wd64 y) : Wd64 (slkA x y) := wd_add (wd_add wx wy 1) (wd_neg (wd_add wx wy 2)) 1
noncomputable def sumR (e x y : Int) : Int × Int := bif decide (x = 0) then (y, e) else bif decide (y = 0) then (x, e) else (addI x y 0, addI e (slkA x y) 1)
theorem sum_DR {e x y : Int} (h : Cle e) (wx : Wd64 x) (wy : Wd64 y) : sumD e x y = sumR e x y ∧ Cle (sumR e x y).2 := by
  obtain ⟨h1, h2⟩ := cle_up h (wd_slkA wx wy)
  unfold sumD sumR
  rw [h1]
  cases decide (x = 0) with
  | true => exact ⟨rfl, h⟩
  | false =>
    cases decide (y = 0) with
    | true => exact ⟨rfl, h⟩
    | false => exact ⟨rfl, h2⟩
theorem wd_0 : Wd64 0 := ⟨0, rfl, by omega⟩
theorem wd_at : ∀ {l : List Tm}, (∀ t ∈ l, Wd64 t.c) → ∀ i, Wd64 (atN l i)
  | [], _, _ => wd_0
  | t :: l, h, i => by
    unfold atN
    cases decide (t.id = i) with
    | true => exact h t (List.mem_cons_self ..)
    | false => exact wd_at (fun u hu => h u (List.mem_cons_of_mem _ hu)) i
theorem merge_inv {f g : Int → Int → Int → Int × Int} {n : Nat} {l m : List Tm} {k e : Int} (hn : l.length + m.length ≤ n) (hl : riseF k l = true) (hm : riseF k m = true) (wl : ∀ t ∈ l, Wd64 t.c) (wm : ∀ t ∈ m, Wd64 t.c)
    (h : ∀ e x y, Cle e → Wd64 x → Wd64 y → f e x y = g e x y ∧ Cle (g e x y).2) (he : Cle e) :
    (mergeN f n l m e).1 = zipT (idsN n (l.map Tm.id) (m.map Tm.id)) (genR g (atN l) (atN m) (idsN n (l.map Tm.id) (m.map Tm.id)) e).1 ∧ (mergeN f n l m e).2 = (genR g (atN l) (atN m) (idsN n (l.map Tm.id) (m.map Tm.id)) e).2 := by
  obtain ⟨h1, h2⟩ := merge_gen f n l m k e hn hl hm
  have h3 := genR_inv (f := f) (g := g) (x := atN l) (y := atN m) (C := Cle) (l := idsN n (l.map Tm.id) (m.map Tm.id)) (e := e) (fun i _ e he => h e _ _ he (wd_at wl i) (wd_at wm i)) he
  rw [h3] at h2
  rw [← h2, ← h1, zip_map]
  exact ⟨rfl, rfl⟩
end Su
end
section
namespace Su
open Go Fly
set_option linter.unusedVariables false
noncomputable section
def rIn  (a : (Bool × (Int × ((List Int) × ((List Int) × Int))))) : Option (Bool × (Int × ((List Int) × ((List Int) × Int)))) :=
  ((Su.rMay_s (a.1, (a.2.1, (a.2.2.1, (a.2.2.2.1, a.2.2.2.2)))))).bind fun x0 =>
  (bif (!x0) then
  some (true, ((0 : Int), ([], ([], (0 : Int)))))
 else
  some (a.1, (a.2.1, (a.2.2.1, (a.2.2.2.1, a.2.2.2.2)))))
def rConst  (f : Int) : Option (Bool × (Int × ((List Int) × ((List Int) × Int)))) :=
  some ((Su.ofF (Su.doneR (Su.toF (false, (f, ([], ([], (0 : Int)))))))).1, ((Su.doneR (Su.toF (false, (f, ([], ([], (0 : Int))))))).2.1, ((List.map (Su.Tm.id) (Su.doneR (Su.toF (false, (f, ([], ([], (0 : Int))))))).2.2.1), ((List.map (Su.Tm.c) (Su.doneR (Su.toF (false, (f, ([], ([], (0 : Int))))))).2.2.1), (Su.doneR (Su.toF (false, (f, ([], ([], (0 : Int))))))).2.2.2))))
abbrev rNeg_l1_S := (Int × ((List Su.T) × ((List Su.T) × (Bool × (Int × (Nat × (Nat × (Int × (Bool × (Int × ((List Int) × ((List Int) × (Int × (Bool × (Int × ((List Int) × (Nat × (Int × ((List Su.T) × Unit)))))))))))))))))))
def rNeg_l1 : rNeg_l1_S → Option (rNeg_l1_S ⊕ rNeg_l1_S) := fun p1 => (bif (decide ((p1.1 < (((List.length p1.2.2.2.2.2.2.2.2.2.2.2.1) : Nat) : Int)))) then
  ((Su.idx p1.2.2.2.2.2.2.2.2.2.2.2.1 p1.1)).bind fun x2 =>
  (bif ((true && (Nat.beq p1.2.2.2.2.2.2.2.2.2.2.2.2.2.2.2.2.1 (List.length p1.2.2.2.2.2.2.2.2.2.2.2.2.2.2.2.2.2.2.1))) && (Nat.ble ((List.length p1.2.2.2.2.2.2.2.2.2.2.2.2.2.2.2.2.2.2.1) + (List.length [(T.s (.int .u64 (Su.flipI x2)))])) 549755813888)) then
  some (.inl ((Go.IntKind.wrap .i64 (p1.1 + 1)), (p1.2.1, (p1.2.2.1, (p1.2.2.2.1, (p1.2.2.2.2.1, (p1.2.2.2.2.2.1, (p1.2.2.2.2.2.2.1, (p1.2.2.2.2.2.2.2.1, (p1.2.2.2.2.2.2.2.2.1, (p1.2.2.2.2.2.2.2.2.2.1, (p1.2.2.2.2.2.2.2.2.2.2.1, (p1.2.2.2.2.2.2.2.2.2.2.2.1, (p1.2.2.2.2.2.2.2.2.2.2.2.2.1, (p1.2.2.2.2.2.2.2.2.2.2.2.2.2.1, (p1.2.2.2.2.2.2.2.2.2.2.2.2.2.2.1, (p1.2.2.2.2.2.2.2.2.2.2.2.2.2.2.2.1, ((List.length (p1.2.2.2.2.2.2.2.2.2.2.2.2.2.2.2.2.2.2.1 ++ [(T.s (.int .u64 (Su.flipI x2)))])), (p1.2.2.2.2.2.2.2.2.2.2.2.2.2.2.2.2.2.1, ((p1.2.2.2.2.2.2.2.2.2.2.2.2.2.2.2.2.2.2.1 ++ [(T.s (.int .u64 (Su.flipI x2)))]), ()))))))))))))))))))))
 else
  none)
 else
  some (.inr (p1.1, (p1.2.1, (p1.2.2.1, (p1.2.2.2.1, (p1.2.2.2.2.1, (p1.2.2.2.2.2.1, (p1.2.2.2.2.2.2.1, (p1.2.2.2.2.2.2.2.1, (p1.2.2.2.2.2.2.2.2.1, (p1.2.2.2.2.2.2.2.2.2.1, (p1.2.2.2.2.2.2.2.2.2.2.1, (p1.2.2.2.2.2.2.2.2.2.2.2.1, (p1.2.2.2.2.2.2.2.2.2.2.2.2.1, (p1.2.2.2.2.2.2.2.2.2.2.2.2.2.1, (p1.2.2.2.2.2.2.2.2.2.2.2.2.2.2.1, (p1.2.2.2.2.2.2.2.2.2.2.2.2.2.2.2.1, (p1.2.2.2.2.2.2.2.2.2.2.2.2.2.2.2.2.1, (p1.2.2.2.2.2.2.2.2.2.2.2.2.2.2.2.2.2.1, (p1.2.2.2.2.2.2.2.2.2.2.2.2.2.2.2.2.2.2.1, ())))))))))))))))))))))
def rNeg  (fu : Nat) (a : (Bool × (Int × ((List Int) × ((List Int) × Int))))) : Option (Bool × (Int × ((List Int) × ((List Int) × Int)))) :=
  ((Su.rMay_s (a.1, (a.2.1, (a.2.2.1, (a.2.2.2.1, a.2.2.2.2)))))).bind fun x0 =>
  (bif (!x0) then
  some (true, ((0 : Int), ([], ([], (0 : Int)))))
 else
  (bif a.1 then
  some (a.1, (a.2.1, (a.2.2.1, (a.2.2.2.1, a.2.2.2.2))))
 else
  (itP fu (rNeg_l1) ((0 : Int), ([], ([], (false, ((0 : Int), (0, (0, ((0 : Int), (a.1, (a.2.1, (a.2.2.1, (a.2.2.2.1, (a.2.2.2.2, (false, ((Su.flipI a.2.1), (a.2.2.1, (0, (a.2.2.2.2, ([], ())))))))))))))))))))).bind fun x3 =>
  ((Su.sub x3.2.2.2.2.2.2.2.2.2.2.2.2.2.2.2.2.2.2.1 0 x3.2.2.2.2.2.2.2.2.2.2.2.2.2.2.2.2.1)).bind fun x4 =>
  ((Su.sub x3.2.2.2.2.2.2.2.2.2.2.2.2.2.2.2.2.2.2.1 0 x3.2.2.2.2.2.2.2.2.2.2.2.2.2.2.2.2.1)).bind fun x5 =>
  (((((((Su.unviews 2 x4)).bind fun x6 =>
  some (x6, x3.2.2.2.2.2.2.2.2.2.2.2.2.2.2.2.2.2.1)).bind fun x7 =>
  some (x3.2.2.2.2.2.2.2.2.2.2.2.2.2.2.2.1, x7)).bind fun x8 =>
  some (x3.2.2.2.2.2.2.2.2.2.2.2.2.2.2.1, x8)).bind fun x9 =>
  some (x3.2.2.2.2.2.2.2.2.2.2.2.2.2.1, x9)).bind fun x10 =>
  (bif ((Su.eqL x10) && (Nat.ble (List.length x10.2.2.1) 549755813888)) then
  some (Su.ofF (Su.doneR (Su.toF x10)))
 else
  none)).bind fun x11 =>
  some (x11.1, (x11.2.1, (x11.2.2.1, (x11.2.2.2.1, x11.2.2.2.2))))))
abbrev rAdd_l1_S := (Int × (Int × ((List Su.T) × ((List Su.T) × (Bool × (Int × (Nat × (Nat × (Int × (Bool × (Int × ((List Int) × ((List Int) × (Int × (Bool × (Int × ((List Int) × ((List Int) × (Int × (Bool × (Int × ((List Int) × (Nat × (Int × ((List Su.T) × Unit)))))))))))))))))))))))))
def rAdd_l1_c1 :=
  fun (p5024 : rAdd_l1_S) x5025 =>
  (bif ((true && (Nat.beq p5024.2.2.2.2.2.2.2.2.2.2.2.2.2.2.2.2.2.2.2.2.2.2.1 (List.length p5024.2.2.2.2.2.2.2.2.2.2.2.2.2.2.2.2.2.2.2.2.2.2.2.2.1))) && (Nat.ble ((List.length p5024.2.2.2.2.2.2.2.2.2.2.2.2.2.2.2.2.2.2.2.2.2.2.2.2.1) + (List.length [(T.s (.int .u64 x5025))])) 549755813888)) then
  some (.inl (p5024.1, ((Go.IntKind.wrap .i64 (p5024.2.1 + 1)), (p5024.2.2.1, (p5024.2.2.2.1, (p5024.2.2.2.2.1, (p5024.2.2.2.2.2.1, (p5024.2.2.2.2.2.2.1, (p5024.2.2.2.2.2.2.2.1, (p5024.2.2.2.2.2.2.2.2.1, (p5024.2.2.2.2.2.2.2.2.2.1, (p5024.2.2.2.2.2.2.2.2.2.2.1, (p5024.2.2.2.2.2.2.2.2.2.2.2.1, (p5024.2.2.2.2.2.2.2.2.2.2.2.2.1, (p5024.2.2.2.2.2.2.2.2.2.2.2.2.2.1, (p5024.2.2.2.2.2.2.2.2.2.2.2.2.2.2.1, (p5024.2.2.2.2.2.2.2.2.2.2.2.2.2.2.2.1, (p5024.2.2.2.2.2.2.2.2.2.2.2.2.2.2.2.2.1, (p5024.2.2.2.2.2.2.2.2.2.2.2.2.2.2.2.2.2.1, (p5024.2.2.2.2.2.2.2.2.2.2.2.2.2.2.2.2.2.2.1, (p5024.2.2.2.2.2.2.2.2.2.2.2.2.2.2.2.2.2.2.2.1, (p5024.2.2.2.2.2.2.2.2.2.2.2.2.2.2.2.2.2.2.2.2.1, (p5024.2.2.2.2.2.2.2.2.2.2.2.2.2.2.2.2.2.2.2.2.2.1, ((List.length (p5024.2.2.2.2.2.2.2.2.2.2.2.2.2.2.2.2.2.2.2.2.2.2.2.2.1 ++ [(T.s (.int .u64 x5025))])), (p5024.2.2.2.2.2.2.2.2.2.2.2.2.2.2.2.2.2.2.2.2.2.2.2.1, ((p5024.2.2.2.2.2.2.2.2.2.2.2.2.2.2.2.2.2.2.2.2.2.2.2.2.1 ++ [(T.s (.int .u64 x5025))]), ()))))))))))))))))))))))))))
 else
  none : Option (rAdd_l1_S ⊕ rAdd_l1_S))
def rAdd_l1 : rAdd_l1_S → Option (rAdd_l1_S ⊕ rAdd_l1_S) := fun p4 => (bif (decide ((p4.2.1 < (((List.length p4.2.2.2.2.2.2.2.2.2.2.2.2.2.2.2.2.2.2.2.2.2.1) : Nat) : Int)))) then
  ((Su.idx p4.2.2.2.2.2.2.2.2.2.2.2.2.2.2.2.2.2.2.2.2.2.1 p4.2.1)).bind fun x5 =>
  ((Su.rAt_s ((p4.2.2.2.2.2.2.2.2.2.1, (p4.2.2.2.2.2.2.2.2.2.2.1, (p4.2.2.2.2.2.2.2.2.2.2.2.1, (p4.2.2.2.2.2.2.2.2.2.2.2.2.1, p4.2.2.2.2.2.2.2.2.2.2.2.2.2.1)))), x5))).bind fun x6 =>
  ((Su.idx p4.2.2.2.2.2.2.2.2.2.2.2.2.2.2.2.2.2.2.2.2.2.1 p4.2.1)).bind fun x7 =>
  ((Su.rAt_s ((p4.2.2.2.2.2.2.2.2.2.2.2.2.2.2.1, (p4.2.2.2.2.2.2.2.2.2.2.2.2.2.2.2.1, (p4.2.2.2.2.2.2.2.2.2.2.2.2.2.2.2.2.1, (p4.2.2.2.2.2.2.2.2.2.2.2.2.2.2.2.2.2.1, p4.2.2.2.2.2.2.2.2.2.2.2.2.2.2.2.2.2.2.1)))), x7))).bind fun x8 =>
  (bif (decide ((x6 = 0))) then
  (rAdd_l1_c1 p4 x8)
 else
  (bif (decide ((x8 = 0))) then
  (rAdd_l1_c1 p4 x6)
 else
  (bif ((true && (Nat.beq p4.2.2.2.2.2.2.2.2.2.2.2.2.2.2.2.2.2.2.2.2.2.2.1 (List.length p4.2.2.2.2.2.2.2.2.2.2.2.2.2.2.2.2.2.2.2.2.2.2.2.2.1))) && (Nat.ble ((List.length p4.2.2.2.2.2.2.2.2.2.2.2.2.2.2.2.2.2.2.2.2.2.2.2.2.1) + (List.length [(T.s (.int .u64 (Su.addI x6 x8 0)))])) 549755813888)) then
  some (.inl ((Su.addI p4.1 (Su.slkA x6 x8) 1), ((Go.IntKind.wrap .i64 (p4.2.1 + 1)), (p4.2.2.1, (p4.2.2.2.1, (p4.2.2.2.2.1, (p4.2.2.2.2.2.1, (p4.2.2.2.2.2.2.1, (p4.2.2.2.2.2.2.2.1, (p4.2.2.2.2.2.2.2.2.1, (p4.2.2.2.2.2.2.2.2.2.1, (p4.2.2.2.2.2.2.2.2.2.2.1, (p4.2.2.2.2.2.2.2.2.2.2.2.1, (p4.2.2.2.2.2.2.2.2.2.2.2.2.1, (p4.2.2.2.2.2.2.2.2.2.2.2.2.2.1, (p4.2.2.2.2.2.2.2.2.2.2.2.2.2.2.1, (p4.2.2.2.2.2.2.2.2.2.2.2.2.2.2.2.1, (p4.2.2.2.2.2.2.2.2.2.2.2.2.2.2.2.2.1, (p4.2.2.2.2.2.2.2.2.2.2.2.2.2.2.2.2.2.1, (p4.2.2.2.2.2.2.2.2.2.2.2.2.2.2.2.2.2.2.1, (p4.2.2.2.2.2.2.2.2.2.2.2.2.2.2.2.2.2.2.2.1, (p4.2.2.2.2.2.2.2.2.2.2.2.2.2.2.2.2.2.2.2.2.1, (p4.2.2.2.2.2.2.2.2.2.2.2.2.2.2.2.2.2.2.2.2.2.1, ((List.length (p4.2.2.2.2.2.2.2.2.2.2.2.2.2.2.2.2.2.2.2.2.2.2.2.2.1 ++ [(T.s (.int .u64 (Su.addI x6 x8 0)))])), (p4.2.2.2.2.2.2.2.2.2.2.2.2.2.2.2.2.2.2.2.2.2.2.2.1, ((p4.2.2.2.2.2.2.2.2.2.2.2.2.2.2.2.2.2.2.2.2.2.2.2.2.1 ++ [(T.s (.int .u64 (Su.addI x6 x8 0)))]), ()))))))))))))))))))))))))))
 else
  none)))
 else
  some (.inr (p4.1, (p4.2.1, (p4.2.2.1, (p4.2.2.2.1, (p4.2.2.2.2.1, (p4.2.2.2.2.2.1, (p4.2.2.2.2.2.2.1, (p4.2.2.2.2.2.2.2.1, (p4.2.2.2.2.2.2.2.2.1, (p4.2.2.2.2.2.2.2.2.2.1, (p4.2.2.2.2.2.2.2.2.2.2.1, (p4.2.2.2.2.2.2.2.2.2.2.2.1, (p4.2.2.2.2.2.2.2.2.2.2.2.2.1, (p4.2.2.2.2.2.2.2.2.2.2.2.2.2.1, (p4.2.2.2.2.2.2.2.2.2.2.2.2.2.2.1, (p4.2.2.2.2.2.2.2.2.2.2.2.2.2.2.2.1, (p4.2.2.2.2.2.2.2.2.2.2.2.2.2.2.2.2.1, (p4.2.2.2.2.2.2.2.2.2.2.2.2.2.2.2.2.2.1, (p4.2.2.2.2.2.2.2.2.2.2.2.2.2.2.2.2.2.2.1, (p4.2.2.2.2.2.2.2.2.2.2.2.2.2.2.2.2.2.2.2.1, (p4.2.2.2.2.2.2.2.2.2.2.2.2.2.2.2.2.2.2.2.2.1, (p4.2.2.2.2.2.2.2.2.2.2.2.2.2.2.2.2.2.2.2.2.2.1, (p4.2.2.2.2.2.2.2.2.2.2.2.2.2.2.2.2.2.2.2.2.2.2.1, (p4.2.2.2.2.2.2.2.2.2.2.2.2.2.2.2.2.2.2.2.2.2.2.2.1, (p4.2.2.2.2.2.2.2.2.2.2.2.2.2.2.2.2.2.2.2.2.2.2.2.2.1, ())))))))))))))))))))))))))))
def rAdd  (fu : Nat) (a : (Bool × (Int × ((List Int) × ((List Int) × Int))))) (b : (Bool × (Int × ((List Int) × ((List Int) × Int))))) : Option (Bool × (Int × ((List Int) × ((List Int) × Int)))) :=
  ((Su.rMay_s (a.1, (a.2.1, (a.2.2.1, (a.2.2.2.1, a.2.2.2.2)))))).bind fun x0 =>
  (bif (!x0) then
  ((Su.rMay_s (b.1, (b.2.1, (b.2.2.1, (b.2.2.2.1, b.2.2.2.2)))))).bind fun x1 =>
  (bif (!x1) then
  some (true, ((0 : Int), ([], ([], (0 : Int)))))
 else
  some (true, ((0 : Int), ([], ([], (0 : Int))))))
 else
  ((Su.rMay_s (b.1, (b.2.1, (b.2.2.1, (b.2.2.2.1, b.2.2.2.2)))))).bind fun x2 =>
  (bif (!x2) then
  (bif a.1 then
  some (true, ((0 : Int), ([], ([], (0 : Int)))))
 else
  some (true, ((0 : Int), ([], ([], (0 : Int))))))
 else
  (bif a.1 then
  some (true, ((0 : Int), ([], ([], (0 : Int)))))
 else
  (bif b.1 then
  some (true, ((0 : Int), ([], ([], (0 : Int)))))
 else
  ((Su.rIds_s ((a.1, (a.2.1, (a.2.2.1, (a.2.2.2.1, a.2.2.2.2)))), (b.1, (b.2.1, (b.2.2.1, (b.2.2.2.1, b.2.2.2.2))))))).bind fun x3 =>
  (itP fu (rAdd_l1) ((Su.addI (Su.addI (Su.addI 0 a.2.2.2.2 1) b.2.2.2.2 1) (Su.slkA a.2.1 b.2.1) 1), ((0 : Int), ([], ([], (false, ((0 : Int), (0, (0, ((0 : Int), (a.1, (a.2.1, (a.2.2.1, (a.2.2.2.1, (a.2.2.2.2, (b.1, (b.2.1, (b.2.2.1, (b.2.2.2.1, (b.2.2.2.2, (false, ((Su.addI a.2.1 b.2.1 0), (x3, (0, ((0 : Int), ([], ())))))))))))))))))))))))))).bind fun x9 =>
  ((Su.sub x9.2.2.2.2.2.2.2.2.2.2.2.2.2.2.2.2.2.2.2.2.2.2.2.2.1 0 x9.2.2.2.2.2.2.2.2.2.2.2.2.2.2.2.2.2.2.2.2.2.2.1)).bind fun x10 =>
  ((Su.sub x9.2.2.2.2.2.2.2.2.2.2.2.2.2.2.2.2.2.2.2.2.2.2.2.2.1 0 x9.2.2.2.2.2.2.2.2.2.2.2.2.2.2.2.2.2.2.2.2.2.2.1)).bind fun x11 =>
  (((((((Su.unviews 2 x10)).bind fun x12 =>
  some (x12, x9.1)).bind fun x13 =>
  some (x9.2.2.2.2.2.2.2.2.2.2.2.2.2.2.2.2.2.2.2.2.2.1, x13)).bind fun x14 =>
  some (x9.2.2.2.2.2.2.2.2.2.2.2.2.2.2.2.2.2.2.2.2.1, x14)).bind fun x15 =>
  some (x9.2.2.2.2.2.2.2.2.2.2.2.2.2.2.2.2.2.2.2.1, x15)).bind fun x16 =>
  (bif ((Su.eqL x16) && (Nat.ble (List.length x16.2.2.1) 549755813888)) then
  some (Su.ofF (Su.doneR (Su.toF x16)))
 else
  none)).bind fun x17 =>
  some (x17.1, (x17.2.1, (x17.2.2.1, (x17.2.2.2.1, x17.2.2.2.2))))))))
set_option linter.unusedSimpArgs false
def constF (f : Int) : Fm := doneF (false, (f, ([], 0)))
def rConst_s (f : Int) : Option Rf := some (ofF (constF f))
theorem rConst_ok (f : Int) (y : Rf) (hg : (d1 (cI .u64)).good f) (h : rConst_s f = some y) : rConst f = some y := h
def okR (x : Rf) : Bool := eqL x && Nat.ble x.2.2.1.length 500000000000
theorem okR_of {a : Fm} (h : a.2.2.1.length ≤ 500000000000) : okR (ofF a) = true := by
  unfold okR
  rw [eqL_of, Bool.true_and]
  refine Nat.ble_eq_true_of_le ?_
  show (a.2.2.1.map Tm.id).length ≤ _
  rw [List.length_map]; exact h
theorem onR {P : Rf → Prop} (h : ∀ a : Fm, a.2.2.1.length ≤ 500000000000 → P (ofF a)) {x : Rf} (hx : okR x = true) : P x := by
  unfold okR at hx
  rw [Bool.and_eq_true] at hx
  have hl := Nat.le_of_ble_eq_true hx.2
  revert hl
  refine onF (P := fun x => x.2.2.1.length ≤ 500000000000 → P x) (fun a hl => h a ?_) hx.1
  have hl : (a.2.2.1.map Tm.id).length ≤ 500000000000 := hl
  rwa [List.length_map] at hl
def Wf (a : Fm) : Prop := Wd64 a.2.1 ∧ Wd64 a.2.2.2 ∧ ∀ t ∈ a.2.2.1, Wd64 t.c
theorem wf_good {a : Fm} (h : cRf.good (ofF a)) : Wf a := by
  refine ⟨wd_of h.2.1, wd_of h.2.2.2.2, fun t ht => ?_⟩
  have h1 : ∀ c ∈ a.2.2.1.map Tm.c, gU 2 c := h.2.2.2.1.1
  exact wd_of (h1 t.c (List.mem_map_of_mem ht))
theorem rMay_of (a : Fm) : rMay_s (ofF a) = some (mayF a) := by
  unfold rMay_s
  rw [eqL_of, to_of]; rfl
theorem rAt_of (a : Fm) (i : Int) : rAt_s (ofF a, i) = some (atN a.2.2.1 i) := by
  unfold rAt_s
  simp only [eqL_of, to_of]; rfl
theorem rDone_of {a : Fm} (h : a.2.2.1.length ≤ 549755813888) : rDone_s (ofF a) = some (ofF (doneR a)) := by
  unfold rDone_s
  have hb : Nat.ble (ofF a).2.2.1.length 549755813888 = true := by
    refine Nat.ble_eq_true_of_le ?_
    show (a.2.2.1.map Tm.id).length ≤ _
    rw [List.length_map]; exact h
  rw [eqL_of, hb, to_of]; rfl
theorem bad_may {a : Fm} (hb : a.1 = true) (hm : mayF a = true) : a = badF := by
  obtain ⟨b, m, l, e⟩ := a
  simp only [] at hb; subst hb
  rw [mayF_eq, cond_true] at hm
  simp only [Bool.and_eq_true, decide_eq_true_eq, List.isEmpty_iff] at hm
  obtain ⟨rfl, rfl, rfl⟩ := hm; rfl
theorem okF_cases (a : Fm) : (okF a = false ∧ mayF a = false) ∨ (okF a = false ∧ mayF a = true ∧ a.1 = true ∧ a = badF) ∨ (okF a = true ∧ mayF a = true ∧ a.1 = false) := by
  cases hm : mayF a with
  | false => exact .inl ⟨by unfold okF; rw [hm]; cases a.1 <;> rfl, rfl⟩
  | true =>
    cases hb : a.1 with
    | true => exact .inr (.inl ⟨by unfold okF; rw [hb]; rfl, rfl, rfl, bad_may hb hm⟩)
    | false => exact .inr (.inr ⟨by unfold okF; rw [hb, hm]; rfl, rfl, rfl⟩)
theorem rneg_loop (r1 r2 : List T) (b0 b1 b2 : Bool) (m0 m1 m2 e0 e1 e2' : Int) (n0 n1 : Nat) (I C J : List Int) (hC : C.length ≤ 500000000000) (q : Int) : ∀ (rest A : List Int), A ++ rest = C →
    ∃ n, itP n rNeg_l1 ((A.length : Int), (r1, (r2, (b0, (m0, (n0, (n1, (e0, (b1, (m1, (I, (C, (e1, (b2, (m2, (J, (A.length, (q, ((A.map flipI).map e2, ()))))))))))))))))))) =
      some ((C.length : Int), (r1, (r2, (b0, (m0, (n0, (n1, (e0, (b1, (m1, (I, (C, (e1, (b2, (m2, (J, (C.length, (q, ((C.map flipI).map e2, ())))))))))))))))))))
  | [], A, hA => by
    rw [List.append_nil] at hA; subst hA
    refine ⟨1, ?_⟩
    have t : ∀ k : Nat, decide ((k : Int) < (k : Int)) = false := fun k => decide_eq_false (by omega)
    rw [itP_s]
    simp only [rNeg_l1, t, cond_false]; rfl
  | c :: rest, A, hA => by
    have hNl : A.length + (rest.length + 1) = C.length := by rw [← hA]; simp
    have hc : idx C (A.length : Int) = some c := by
      have := idx_mid (fun x : Int => x) A c rest
      rw [List.map_id', hA] at this; exact this
    have hlt : decide ((A.length : Int) < ((C.length : Nat) : Int)) = true := decide_eq_true (by omega)
    have hw : IntKind.i64.wrap ((A.length : Int) + 1) = (((A ++ [c]).length : Nat) : Int) := by rw [w64 (by omega) (by omega)]; simp
    have hb : Nat.ble (A.length + 1) 549755813888 = true := Nat.ble_eq_true_of_le (by omega)
    have hm : (A.map flipI).map e2 ++ [T.s (.int .u64 (flipI c))] = ((A ++ [c]).map flipI).map e2 := by rw [List.map_append, List.map_append]; rfl
    have hl : (((A ++ [c]).map flipI).map e2).length = (A ++ [c]).length := by rw [List.length_map, List.length_map]
    have hl2 : ((A.map flipI).map e2).length = A.length := by rw [List.length_map, List.length_map]
    obtain ⟨n, h⟩ := rneg_loop r1 r2 b0 b1 b2 m0 m1 m2 e0 e1 e2' n0 n1 I C J hC q rest (A ++ [c]) (by rw [← hA]; simp)
    refine ⟨n + 1, ?_⟩
    rw [itP_s]
    simp only [rNeg_l1, hc, hlt, cond_true, Option.bind_some, hw, hm, hl, hl2, beq_self, Bool.and_self, List.length_singleton, hb]
    exact h
theorem map_flip {l : List Tm} (h : ∀ t ∈ l, Wd64 t.c ∧ fI t.c = true) : zipT (l.map Tm.id) ((l.map Tm.c).map flipI) = l.map negT := by
  induction l with
  | nil => rfl
  | cons t l ih =>
    obtain ⟨h1, h2⟩ := h t (List.mem_cons_self ..)
    obtain ⟨C, h3, hC⟩ := h1
    have : flipI t.c = negI t.c := by
      have hf := fI_iff.1 h2
      unfold flipI negI
      rw [flip_neg (nanK_not.2 (by omega))]
    simp only [List.map_cons, zipT]
    rw [ih fun u hu => h u (List.mem_cons_of_mem _ hu), this]; rfl
theorem flip_fin {c : Int} (h : fI c = true) : flipI c = negI c := by
  have hf := fI_iff.1 h
  unfold flipI negI
  rw [flip_neg (nanK_not.2 (by omega))]
def rNeg_s (x : Rf) : Option Rf := bif okR x then some (ofF (negFm (toF x))) else none
theorem rNeg_ok (x y : Rf) (hg : (d1 cRf).good x) (h : rNeg_s x = some y) : ∃ n, rNeg n x = some y := by
  obtain ⟨hx, h2⟩ := bif_some h
  have := soi h2; subst this
  revert hg
  refine onR (P := fun x => (d1 cRf).good x → ∃ n, rNeg n x = some (ofF (negFm (toF x)))) (fun a hl hg => ?_) hx
  have hw := wf_good hg
  rw [to_of]
  obtain ⟨b, m, l, e⟩ := a
  have hl : l.length ≤ 500000000000 := hl
  unfold rNeg
  unfold negFm
  rcases okF_cases (b, (m, (l, e))) with ⟨h1, h2⟩ | ⟨h1, h2, h3, h4⟩ | ⟨h1, h2, h3⟩
  · refine ⟨0, obs (rMay_of (b, (m, (l, e)))) ?_⟩
    rw [h1, h2]; rfl
  · unfold badF at h4
    simp only [Prod.mk.injEq] at h4
    obtain ⟨rfl, rfl, rfl, rfl⟩ := h4
    refine ⟨0, obs (rMay_of (true, (0, ([], 0)))) ?_⟩
    rw [h1, h2]; rfl
  · have h3 : b = false := h3
    have ht := tells (a := (b, (m, (l, e)))) h3 h2 hw.1 hw.2.1 hw.2.2
    subst h3
    have hlm : (l.map Tm.c).length ≤ 500000000000 := by rw [List.length_map]; exact hl
    obtain ⟨n, q⟩ := rneg_loop [] [] false false false 0 m (flipI m) 0 e e 0 0 (l.map Tm.id) (l.map Tm.c) (l.map Tm.id) hlm e (l.map Tm.c) [] rfl
    refine ⟨n, obs (rMay_of (false, (m, (l, e)))) ?_⟩
    rw [h1, h2, Bool.not_true, cond_false, cond_true, show (ofF (false, (m, (l, e)))).1 = false from rfl, cond_false]
    refine obs q ?_
    refine obs (sub_full _ _ (by simp)) (obs (sub_full _ _ (by simp)) ?_)
    have hu := unviews_2 ((l.map Tm.c).map flipI)
    refine obs (obs (obs (obs (obs (obs hu rfl) rfl) rfl) rfl) ?_) rfl (t := ofF (doneF (false, (negI m, (l.map negT, e)))))
    have e1 : (false, (flipI m, (l.map Tm.id, ((l.map Tm.c).map flipI, e)))) = ofF (false, (negI m, (l.map negT, e))) := by
      unfold ofF
      simp only [flip_fin ht.fm]
      rw [← map_flip (l := l) (fun t ht' => ⟨ht.wt t ht', ht.ft t ht'⟩), zip_id (by simp), zip_c (by simp)]
    have := rDone_of (a := (false, (negI m, (l.map negT, e)))) (by rw [List.length_map]; omega)
    rw [← e1] at this
    exact this
theorem radd_loop (r1 r2 : List T) (z0 z5 : Bool) (k1 k4 k5 k6 : Int) (n2 n3 : Nat) (a b : Fm) (I : List Int) (hI : I.length ≤ 549755813888) : ∀ (rest A cs : List Int) (e : Int), A ++ rest = I → cs.length = A.length →
    ∃ n, itP n rAdd_l1 (e, ((A.length : Int), (r1, (r2, (z0, (k1, (n2, (n3, (k4, ((ofF a).1, ((ofF a).2.1, ((ofF a).2.2.1, ((ofF a).2.2.2.1, ((ofF a).2.2.2.2, ((ofF b).1, ((ofF b).2.1, ((ofF b).2.2.1, ((ofF b).2.2.2.1, ((ofF b).2.2.2.2, (z5, (k5, (I, (cs.length, (k6, (cs.map e2, ()))))))))))))))))))))))))) =
      some ((genR sumR (atN a.2.2.1) (atN b.2.2.1) rest e).2, ((I.length : Int), (r1, (r2, (z0, (k1, (n2, (n3, (k4, ((ofF a).1, ((ofF a).2.1, ((ofF a).2.2.1, ((ofF a).2.2.2.1, ((ofF a).2.2.2.2, ((ofF b).1, ((ofF b).2.1, ((ofF b).2.2.1, ((ofF b).2.2.2.1, ((ofF b).2.2.2.2, (z5, (k5, (I, ((cs ++ (genR sumR (atN a.2.2.1) (atN b.2.2.1) rest e).1).length, (k6, ((cs ++ (genR sumR (atN a.2.2.1) (atN b.2.2.1) rest e).1).map e2, ())))))))))))))))))))))))))
  | [], A, cs, e, hA, hc => by
    rw [List.append_nil] at hA; subst hA
    refine ⟨1, ?_⟩
    have t : ∀ k : Nat, decide ((k : Int) < (k : Int)) = false := fun k => decide_eq_false (by omega)
    rw [itP_s]
    simp only [rAdd_l1, rAdd_l1_c1, t, cond_false, genR, List.append_nil]; rfl
  | i :: rest, A, cs, e, hA, hcs => by
    have hNl : A.length + (rest.length + 1) = I.length := by rw [← hA]; simp
    have hi : idx I (A.length : Int) = some i := by
      have := idx_mid (fun x : Int => x) A i rest
      rw [List.map_id', hA] at this; exact this
    have hlt : decide ((A.length : Int) < ((I.length : Nat) : Int)) = true := decide_eq_true (by omega)
    have hw : IntKind.i64.wrap ((A.length : Int) + 1) = (((A ++ [i]).length : Nat) : Int) := by rw [w64 (by omega) (by omega)]; simp
    have hb : Nat.ble (cs.length + 1) 549755813888 = true := Nat.ble_eq_true_of_le (by omega)
    have ra : rAt_s (((ofF a).1, ((ofF a).2.1, ((ofF a).2.2.1, ((ofF a).2.2.2.1, (ofF a).2.2.2.2)))), i) = some (atN a.2.2.1 i) := rAt_of a i
    have rb : rAt_s (((ofF b).1, ((ofF b).2.1, ((ofF b).2.2.1, ((ofF b).2.2.2.1, (ofF b).2.2.2.2)))), i) = some (atN b.2.2.1 i) := rAt_of b i
    have hm : ∀ c : Int, cs.map e2 ++ [T.s (.int .u64 c)] = (cs ++ [c]).map e2 := fun c => by rw [List.map_append]; rfl
    have hl : ∀ c : Int, ((cs ++ [c]).map e2).length = (cs ++ [c]).length := fun c => List.length_map ..
    have hl2 : (cs.map e2).length = cs.length := List.length_map ..
    obtain ⟨n, h⟩ := radd_loop r1 r2 z0 z5 k1 k4 k5 k6 n2 n3 a b I hI rest (A ++ [i]) (cs ++ [(sumR e (atN a.2.2.1 i) (atN b.2.2.1 i)).1]) (sumR e (atN a.2.2.1 i) (atN b.2.2.1 i)).2 (by rw [← hA]; simp) (by simp [hcs])
    refine ⟨n + 1, ?_⟩
    rw [itP_s]
    rw [List.append_assoc, List.singleton_append] at h
    simp only [genR]
    cases g1 : decide (atN a.2.2.1 i = 0) with
    | true =>
      simp only [sumR, g1, cond_true] at h ⊢
      simp only [rAdd_l1, rAdd_l1_c1, hi, hlt, ra, rb, g1, cond_true, Option.bind_some, hw, hm, hl, hl2, beq_self, Bool.and_self, List.length_singleton, hb]
      exact h
    | false =>
      cases g2 : decide (atN b.2.2.1 i = 0) with
      | true =>
        simp only [sumR, g1, g2, cond_true, cond_false] at h ⊢
        simp only [rAdd_l1, rAdd_l1_c1, hi, hlt, ra, rb, g1, g2, cond_true, cond_false, Option.bind_some, hw, hm, hl, hl2, beq_self, Bool.and_self, List.length_singleton, hb]
        exact h
      | false =>
        simp only [sumR, g1, g2, cond_false] at h ⊢
        simp only [rAdd_l1, rAdd_l1_c1, hi, hlt, ra, rb, g1, g2, cond_true, cond_false, Option.bind_some, hw, hm, hl, hl2, beq_self, Bool.and_self, List.length_singleton, hb]
        exact h
theorem genR_len (f : Int → Int → Int → Int × Int) (x y : Int → Int) : ∀ (l : List Int) (e : Int), (genR f x y l e).1.length = l.length
  | [], _ => rfl
  | i :: l, e => congrArg Nat.succ (genR_len f x y l _)
def rAdd_s (p : Rf × Rf) : Option Rf := bif okR p.1 && okR p.2 && Nat.ble (p.1.2.2.1.length + p.2.2.2.1.length) 500000000000 then some (ofF (addFm (toF p.1) (toF p.2))) else none
theorem rAdd_ok (p : Rf × Rf) (y : Rf) (hg : (dc cRf (d1 cRf)).good p) (h : rAdd_s p = some y) : ∃ n, rAdd n p.1 p.2 = some y := by
  obtain ⟨x, z⟩ := p
  obtain ⟨hc, h2⟩ := bif_some h
  have := soi h2; subst this
  simp only [Bool.and_eq_true] at hc
  obtain ⟨⟨hx, hz⟩, hlen⟩ := hc
  have hlen := Nat.le_of_ble_eq_true hlen
  have gx : cRf.good x := hg.1
  have gz : cRf.good z := hg.2
  clear hg h h2
  simp only [] at hlen ⊢
  revert gx hlen
  refine onR (P := fun x => x.2.2.1.length + z.2.2.1.length ≤ 500000000000 → cRf.good x → ∃ n, rAdd n x z = some (ofF (addFm (toF x) (toF z)))) (fun a _ hlen gx => ?_) hx
  revert gz hlen
  refine onR (P := fun z => cRf.good z → (ofF a).2.2.1.length + z.2.2.1.length ≤ 500000000000 → ∃ n, rAdd n (ofF a) z = some (ofF (addFm (toF (ofF a)) (toF z)))) (fun b _ gz hlen => ?_) hz
  have wa := wf_good gx
  have wb := wf_good gz
  have hll : a.2.2.1.length + b.2.2.1.length ≤ 500000000000 := by
    have : (a.2.2.1.map Tm.id).length + (b.2.2.1.map Tm.id).length ≤ 500000000000 := hlen
    rwa [List.length_map, List.length_map] at this
  rw [to_of, to_of, addFm_eq]
  unfold rAdd addO'
  rcases okF_cases a with ⟨h1, h2⟩ | ⟨h1, h2, h3, _⟩ | ⟨h1, h2, h3⟩
  · refine ⟨0, obs (rMay_of a) ?_⟩
    rw [h1, h2, Bool.false_and, cond_false]
    refine obs (rMay_of b) ?_
    cases mayF b <;> rfl
  · refine ⟨0, obs (rMay_of a) ?_⟩
    rw [h1, h2, Bool.false_and, cond_false, Bool.not_true, cond_false]
    refine obs (rMay_of b) ?_
    rw [show (ofF a).1 = true from h3]
    cases mayF b <;> rfl
  · rcases okF_cases b with ⟨g1, g2⟩ | ⟨g1, g2, g3, _⟩ | ⟨g1, g2, g3⟩
    · refine ⟨0, obs (rMay_of a) ?_⟩
      rw [h1, h2, Bool.true_and, Bool.not_true, cond_false]
      refine obs (rMay_of b) ?_
      rw [g1, g2]
      cases (ofF a).1 <;> rfl
    · refine ⟨0, obs (rMay_of a) ?_⟩
      rw [h1, h2, Bool.true_and, Bool.not_true, cond_false]
      refine obs (rMay_of b) ?_
      rw [g1, g2, Bool.not_true, cond_false, show (ofF a).1 = false from h3, show (ofF b).1 = true from g3]; rfl
    · have ta := tells h3 h2 wa.1 wa.2.1 wa.2.2
      have tb := tells g3 g2 wb.1 wb.2.1 wb.2.2
      have hids : rIds_s (ofF a, ofF b) = some (idsN (a.2.2.1.length + b.2.2.1.length) (a.2.2.1.map Tm.id) (b.2.2.1.map Tm.id)) := by
        unfold rIds_s
        simp only []
        have hl1 : (ofF a).2.2.1.length = a.2.2.1.length := List.length_map ..
        have hl2 : (ofF b).2.2.1.length = b.2.2.1.length := List.length_map ..
        rw [hl1, hl2, Nat.ble_eq_true_of_le (by omega), cond_true]; rfl
      have hIl := ids_len (a.2.2.1.length + b.2.2.1.length) (a.2.2.1.map Tm.id) (b.2.2.1.map Tm.id)
      have hcl : Cle (upI [a.2.2.2, b.2.2.2, slkA a.2.1 b.2.1]) := by
        have : upI [a.2.2.2, b.2.2.2, slkA a.2.1 b.2.1] = addI (addI (addI 0 a.2.2.2 1) b.2.2.2 1) (slkA a.2.1 b.2.1) 1 := rfl
        rw [this]
        have c1 := cle_add wd_0 wa.2.1 (by omega)
        have c2 := cle_add c1.1 wb.2.1 c1.2.1
        exact cle_add c2.1 (wd_slkA wa.1 wb.1) c2.2.1
      obtain ⟨m1, m2⟩ := merge_inv (f := sumD) (g := sumR) (n := a.2.2.1.length + b.2.2.1.length) (l := a.2.2.1) (m := b.2.2.1) (k := -1) (Nat.le_refl _) ta.rise tb.rise wa.2.2 wb.2.2 (fun e x y he wx wy => sum_DR he wx wy) hcl
      obtain ⟨n, q⟩ := radd_loop [] [] false false 0 0 (addI a.2.1 b.2.1 0) 0 0 0 a b (idsN (a.2.2.1.length + b.2.2.1.length) (a.2.2.1.map Tm.id) (b.2.2.1.map Tm.id)) (by omega) (idsN (a.2.2.1.length + b.2.2.1.length) (a.2.2.1.map Tm.id) (b.2.2.1.map Tm.id)) [] [] (upI [a.2.2.2, b.2.2.2, slkA a.2.1 b.2.1]) rfl rfl
      refine ⟨n, obs (rMay_of a) ?_⟩
      rw [h1, h2, Bool.true_and, Bool.not_true, cond_false]
      refine obs (rMay_of b) ?_
      rw [g1, g2, Bool.not_true, cond_false, cond_true, show (ofF a).1 = false from h3, show (ofF b).1 = false from g3, cond_false, cond_false]
      refine obs hids ?_
      have fa : (ofF a).1 = false := h3
      have fb : (ofF b).1 = false := g3
      rw [fa, fb] at q
      refine obs q ?_
      simp only [List.nil_append]
      generalize hI : idsN (a.2.2.1.length + b.2.2.1.length) (a.2.2.1.map Tm.id) (b.2.2.1.map Tm.id) = I at *
      have hgl := genR_len sumR (atN a.2.2.1) (atN b.2.2.1) I (upI [a.2.2.2, b.2.2.2, slkA a.2.1 b.2.1])
      generalize genR sumR (atN a.2.2.1) (atN b.2.2.1) I (upI [a.2.2.2, b.2.2.2, slkA a.2.1 b.2.1]) = G at *
      obtain ⟨cs, er⟩ := G
      simp only [] at hgl m1 m2 ⊢
      have hr := rDone_of (a := (false, (addI a.2.1 b.2.1 0, (zipT I cs, er)))) (by
        have := List.length_map (f := Tm.id) (as := zipT I cs)
        rw [zip_id hgl.symm] at this
        simp only []; omega)
      have er1 : ofF (false, (addI a.2.1 b.2.1 0, (zipT I cs, er))) = (false, (addI a.2.1 b.2.1 0, (I, (cs, er)))) := by
        unfold ofF
        simp only []
        rw [zip_id hgl.symm, zip_c hgl.symm]
      rw [er1] at hr
      refine obs (sub_full _ _ (by simp)) (obs (sub_full _ _ (by simp)) ?_)
      refine obs (obs (obs (obs (obs (obs (unviews_2 cs) rfl) rfl) rfl) rfl) hr) ?_
      simp only [m1, m2]; rfl
end
end Su
end
section
namespace Su
open Go Fly
set_option linter.unusedVariables false
noncomputable section
abbrev lOf_l1_S := (Int × (Bool × (Int × ((List Su.Tm) × (Int × ((List Su.T) × ((List Su.T) × (Bool × (Int × (Nat × (Nat × (Int × ((List Su.T) × ((List Su.T) × (Bool × (Int × (Nat × (Nat × (Int × Unit)))))))))))))))))))
def lOf_l1 : lOf_l1_S → Option (lOf_l1_S ⊕ lOf_l1_S) := fun p0 => (bif (decide ((p0.1 < (((List.length p0.2.2.2.1) : Nat) : Int)))) then
  ((Su.idx p0.2.2.2.1 p0.1)).bind fun x1 =>
  (bif ((true && (Nat.beq p0.2.2.2.2.2.2.2.2.2.2.2.2.2.2.2.2.1 (List.length p0.2.2.2.2.2.2.2.2.2.2.2.2.1))) && (Nat.ble ((List.length p0.2.2.2.2.2.2.2.2.2.2.2.2.1) + (List.length [(T.s (.int .i64 (Su.Tm.id x1)))])) 549755813888)) then
  ((Su.idx p0.2.2.2.1 p0.1)).bind fun x2 =>
  (bif ((true && (Nat.beq p0.2.2.2.2.2.2.2.2.2.2.2.2.2.2.2.2.2.1 (List.length p0.2.2.2.2.2.2.2.2.2.2.2.2.2.1))) && (Nat.ble ((List.length p0.2.2.2.2.2.2.2.2.2.2.2.2.2.1) + (List.length [(T.s (.int .u64 (Su.Tm.c x2)))])) 549755813888)) then
  some (.inl ((Go.IntKind.wrap .i64 (p0.1 + 1)), (p0.2.1, (p0.2.2.1, (p0.2.2.2.1, (p0.2.2.2.2.1, (p0.2.2.2.2.2.1, (p0.2.2.2.2.2.2.1, (p0.2.2.2.2.2.2.2.1, (p0.2.2.2.2.2.2.2.2.1, (p0.2.2.2.2.2.2.2.2.2.1, (p0.2.2.2.2.2.2.2.2.2.2.1, (p0.2.2.2.2.2.2.2.2.2.2.2.1, ((p0.2.2.2.2.2.2.2.2.2.2.2.2.1 ++ [(T.s (.int .i64 (Su.Tm.id x1)))]), ((p0.2.2.2.2.2.2.2.2.2.2.2.2.2.1 ++ [(T.s (.int .u64 (Su.Tm.c x2)))]), (p0.2.2.2.2.2.2.2.2.2.2.2.2.2.2.1, (p0.2.2.2.2.2.2.2.2.2.2.2.2.2.2.2.1, ((List.length (p0.2.2.2.2.2.2.2.2.2.2.2.2.1 ++ [(T.s (.int .i64 (Su.Tm.id x1)))])), ((List.length (p0.2.2.2.2.2.2.2.2.2.2.2.2.2.1 ++ [(T.s (.int .u64 (Su.Tm.c x2)))])), (p0.2.2.2.2.2.2.2.2.2.2.2.2.2.2.2.2.2.2.1, ()))))))))))))))))))))
 else
  none)
 else
  none)
 else
  some (.inr (p0.1, (p0.2.1, (p0.2.2.1, (p0.2.2.2.1, (p0.2.2.2.2.1, (p0.2.2.2.2.2.1, (p0.2.2.2.2.2.2.1, (p0.2.2.2.2.2.2.2.1, (p0.2.2.2.2.2.2.2.2.1, (p0.2.2.2.2.2.2.2.2.2.1, (p0.2.2.2.2.2.2.2.2.2.2.1, (p0.2.2.2.2.2.2.2.2.2.2.2.1, (p0.2.2.2.2.2.2.2.2.2.2.2.2.1, (p0.2.2.2.2.2.2.2.2.2.2.2.2.2.1, (p0.2.2.2.2.2.2.2.2.2.2.2.2.2.2.1, (p0.2.2.2.2.2.2.2.2.2.2.2.2.2.2.2.1, (p0.2.2.2.2.2.2.2.2.2.2.2.2.2.2.2.2.1, (p0.2.2.2.2.2.2.2.2.2.2.2.2.2.2.2.2.2.1, (p0.2.2.2.2.2.2.2.2.2.2.2.2.2.2.2.2.2.2.1, ())))))))))))))))))))))
def lOf  (fu : Nat) (a : (Bool × (Int × ((List Su.Tm) × Int)))) : Option (Bool × (Int × ((List Int) × ((List Int) × Int)))) :=
  (itP fu (lOf_l1) ((0 : Int), (a.1, (a.2.1, (a.2.2.1, (a.2.2.2, ([], ([], (false, ((0 : Int), (0, (0, ((0 : Int), ([], ([], (a.1, (a.2.1, (0, (0, (a.2.2.2, ())))))))))))))))))))).bind fun x3 =>
  ((Su.sub x3.2.2.2.2.2.2.2.2.2.2.2.2.1 0 x3.2.2.2.2.2.2.2.2.2.2.2.2.2.2.2.2.1)).bind fun x4 =>
  ((Su.sub x3.2.2.2.2.2.2.2.2.2.2.2.2.2.1 0 x3.2.2.2.2.2.2.2.2.2.2.2.2.2.2.2.2.2.1)).bind fun x5 =>
  ((((Su.unviews 3 x4)).bind fun x6 =>
  (((Su.unviews 2 x5)).bind fun x7 =>
  some (x7, x3.2.2.2.2.2.2.2.2.2.2.2.2.2.2.2.2.2.2.1)).bind fun x8 =>
  some (x6, x8)).bind fun x9 =>
  some (x3.2.2.2.2.2.2.2.2.2.2.2.2.2.2.2.1, x9)).bind fun x10 =>
  some (x3.2.2.2.2.2.2.2.2.2.2.2.2.2.2.1, x10)
def lIs_l1 : (Int × (Bool × (Int × ((List Su.Tm) × (Int × (Bool × (Int × ((List Int) × ((List Int) × (Int × Unit)))))))))) → Option ((Int × (Bool × (Int × ((List Su.Tm) × (Int × (Bool × (Int × ((List Int) × ((List Int) × (Int × Unit)))))))))) ⊕ (Lp (Int × (Bool × (Int × ((List Su.Tm) × (Int × (Bool × (Int × ((List Int) × ((List Int) × (Int × Unit)))))))))) Bool)) := fun p0 => (bif (decide ((p0.1 < (((List.length p0.2.2.2.1) : Nat) : Int)))) then
  ((Su.idx p0.2.2.2.1 p0.1)).bind fun x1 =>
  ((Su.idx p0.2.2.2.2.2.2.2.1 p0.1)).bind fun x2 =>
  (bif (!(decide (((Su.Tm.id x1) = x2)))) then
  some (.inr (.ret false))
 else
  ((Su.idx p0.2.2.2.1 p0.1)).bind fun x3 =>
  ((Su.idx p0.2.2.2.2.2.2.2.2.1 p0.1)).bind fun x4 =>
  (bif (!(decide (((Su.Tm.c x3) = x4)))) then
  some (.inr (.ret false))
 else
  some (.inl ((Go.IntKind.wrap .i64 (p0.1 + 1)), (p0.2.1, (p0.2.2.1, (p0.2.2.2.1, (p0.2.2.2.2.1, (p0.2.2.2.2.2.1, (p0.2.2.2.2.2.2.1, (p0.2.2.2.2.2.2.2.1, (p0.2.2.2.2.2.2.2.2.1, (p0.2.2.2.2.2.2.2.2.2.1, ())))))))))))))
 else
  some (.inr (.exit 0 (p0.1, (p0.2.1, (p0.2.2.1, (p0.2.2.2.1, (p0.2.2.2.2.1, (p0.2.2.2.2.2.1, (p0.2.2.2.2.2.2.1, (p0.2.2.2.2.2.2.2.1, (p0.2.2.2.2.2.2.2.2.1, (p0.2.2.2.2.2.2.2.2.2.1, ())))))))))))))
def lIs  (fu : Nat) (a : (Bool × (Int × ((List Su.Tm) × Int)))) (f : (Bool × (Int × ((List Int) × ((List Int) × Int))))) : Option Bool :=
  (bif (!(decide ((a.1 = f.1)))) then
  some false
 else
  (bif (!(decide ((a.2.1 = f.2.1)))) then
  some false
 else
  (bif (!(decide ((a.2.2.2 = f.2.2.2.2)))) then
  some false
 else
  (bif (!(decide (((((List.length a.2.2.1) : Nat) : Int) = (((List.length f.2.2.1) : Nat) : Int))))) then
  some false
 else
  (itP fu (lIs_l1) ((0 : Int), (a.1, (a.2.1, (a.2.2.1, (a.2.2.2, (f.1, (f.2.1, (f.2.2.1, (f.2.2.2.1, (f.2.2.2.2, ()))))))))))).bind fun x5 =>
  (match x5 with
 | .exit i6 p7 => (bif (Nat.beq i6 0) then
  some true
 else
  none)
 | .ret o8 => some o8)))))
set_option linter.unusedSimpArgs false
def lOf_s (a : Fm) : Option Rf := bif Nat.ble a.2.2.1.length 500000000000 then some (ofF a) else none
theorem of_loop (b b1 b2 : Bool) (m m1 m2 e e1 e3' : Int) (r1 r2 : List T) (n1 n2 : Nat) (l : List Tm) (hl : l.length ≤ 500000000000) : ∀ (rest A : List Tm), A ++ rest = l →
    ∃ n, itP n lOf_l1 ((A.length : Int), (b, (m, (l, (e, (r1, (r2, (b1, (m1, (n1, (n2, (e1, ((A.map Tm.id).map e3, ((A.map Tm.c).map e2, (b2, (m2, (A.length, (A.length, (e3', ()))))))))))))))))))) =
      some ((l.length : Int), (b, (m, (l, (e, (r1, (r2, (b1, (m1, (n1, (n2, (e1, ((l.map Tm.id).map e3, ((l.map Tm.c).map e2, (b2, (m2, (l.length, (l.length, (e3', ())))))))))))))))))))
  | [], A, hA => by
    rw [List.append_nil] at hA; subst hA
    refine ⟨1, ?_⟩
    have t : ∀ k : Nat, decide ((k : Int) < (k : Int)) = false := fun k => decide_eq_false (by omega)
    rw [itP_s]
    simp only [lOf_l1, t, cond_false]; rfl
  | t :: rest, A, hA => by
    have hNl : A.length + (rest.length + 1) = l.length := by rw [← hA]; simp
    have hi : idx l (A.length : Int) = some t := by
      have := idx_mid (fun x : Tm => x) A t rest
      rw [List.map_id', hA] at this; exact this
    have hlt : decide ((A.length : Int) < ((l.length : Nat) : Int)) = true := decide_eq_true (by omega)
    have hw : IntKind.i64.wrap ((A.length : Int) + 1) = (((A ++ [t]).length : Nat) : Int) := by rw [w64 (by omega) (by omega)]; simp
    have hb : Nat.ble (A.length + 1) 549755813888 = true := Nat.ble_eq_true_of_le (by omega)
    have d1 : (A.map Tm.id).map e3 ++ [T.s (.int .i64 t.id)] = ((A ++ [t]).map Tm.id).map e3 := by rw [List.map_append, List.map_append]; rfl
    have d2 : (A.map Tm.c).map e2 ++ [T.s (.int .u64 t.c)] = ((A ++ [t]).map Tm.c).map e2 := by rw [List.map_append, List.map_append]; rfl
    have l1 : ((A.map Tm.id).map e3).length = A.length := by rw [List.length_map, List.length_map]
    have l2 : ((A.map Tm.c).map e2).length = A.length := by rw [List.length_map, List.length_map]
    have l3 : (((A ++ [t]).map Tm.id).map e3).length = (A ++ [t]).length := by rw [List.length_map, List.length_map]
    have l4 : (((A ++ [t]).map Tm.c).map e2).length = (A ++ [t]).length := by rw [List.length_map, List.length_map]
    obtain ⟨n, h⟩ := of_loop b b1 b2 m m1 m2 e e1 e3' r1 r2 n1 n2 l hl rest (A ++ [t]) (by rw [← hA]; simp)
    refine ⟨n + 1, ?_⟩
    rw [itP_s]
    simp only [lOf_l1, hi, hlt, cond_true, Option.bind_some, hw, d1, d2, l1, l2, l3, l4, beq_self, Bool.and_self, List.length_singleton, hb]
    exact h
theorem lOf_ok (a : Fm) (y : Rf) (hg : (d1 cFrm).good a) (h : lOf_s a = some y) : ∃ n, lOf n a = some y := by
  obtain ⟨b, m, l, e⟩ := a
  obtain ⟨h1, h2⟩ := bif_some h
  have := soi h2; subst this
  have hl : l.length ≤ 500000000000 := Nat.le_of_ble_eq_true h1
  obtain ⟨n, q⟩ := of_loop b false b m 0 m e 0 e [] [] 0 0 l hl l [] rfl
  refine ⟨n, ?_⟩
  unfold lOf
  refine obs q ?_
  refine obs (sub_full _ _ (by simp)) (obs (sub_full _ _ (by simp)) ?_)
  exact obs (obs (obs (unviews_3 _) (obs (obs (unviews_2 _) rfl) rfl)) rfl) rfl
noncomputable def lIs_s (p : Fm × Rf) : Option Bool := @ite _ (p.2 = ofF p.1 ∧ p.1.2.2.1.length ≤ 500000000000) (Classical.propDecidable _) (some true) none
theorem lIs_of {a : Fm} (h : a.2.2.1.length ≤ 500000000000) : lIs_s (a, ofF a) = some true := by
  unfold lIs_s
  exact if_pos ⟨rfl, h⟩
theorem is_loop (b c : Bool) (m e k j : Int) (l : List Tm) (hl : l.length ≤ 500000000000) : ∀ (rest A : List Tm), A ++ rest = l →
    ∃ n, itP n lIs_l1 ((A.length : Int), (b, (m, (l, (e, (c, (k, (l.map Tm.id, (l.map Tm.c, (j, ())))))))))) = some (.exit 0 ((l.length : Int), (b, (m, (l, (e, (c, (k, (l.map Tm.id, (l.map Tm.c, (j, ())))))))))))
  | [], A, hA => by
    rw [List.append_nil] at hA; subst hA
    refine ⟨1, ?_⟩
    have t : ∀ k : Nat, decide ((k : Int) < (k : Int)) = false := fun k => decide_eq_false (by omega)
    rw [itP_s]
    simp only [lIs_l1, t, cond_false]; rfl
  | t :: rest, A, hA => by
    have hNl : A.length + (rest.length + 1) = l.length := by rw [← hA]; simp
    have hi : idx l (A.length : Int) = some t := by
      have := idx_mid (fun x : Tm => x) A t rest
      rw [List.map_id', hA] at this; exact this
    have h1 : idx (l.map Tm.id) (A.length : Int) = some t.id := by rw [← hA]; exact idx_mid Tm.id A t rest
    have h2 : idx (l.map Tm.c) (A.length : Int) = some t.c := by rw [← hA]; exact idx_mid Tm.c A t rest
    have hlt : decide ((A.length : Int) < ((l.length : Nat) : Int)) = true := decide_eq_true (by omega)
    have hw : IntKind.i64.wrap ((A.length : Int) + 1) = (((A ++ [t]).length : Nat) : Int) := by rw [w64 (by omega) (by omega)]; simp
    obtain ⟨n, h⟩ := is_loop b c m e k j l hl rest (A ++ [t]) (by rw [← hA]; simp)
    refine ⟨n + 1, ?_⟩
    rw [itP_s]
    simp only [lIs_l1, hi, h1, h2, hlt, cond_true, Option.bind_some, hw, decide_true, Bool.not_true, cond_false]
    exact h
theorem lIs_ok (p : Fm × Rf) (y : Bool) (hg : (dc cFrm (d1 cRf)).good p) (h : lIs_s p = some y) : ∃ n, lIs n p.1 p.2 = some y := by
  obtain ⟨a, f⟩ := p
  unfold lIs_s at h
  by_cases hc : f = ofF a ∧ a.2.2.1.length ≤ 500000000000
  · rw [if_pos hc] at h
    have := soi h; subst this
    obtain ⟨rfl, hl⟩ := hc
    obtain ⟨b, m, l, e⟩ := a
    obtain ⟨n, q⟩ := is_loop b b m e m e l hl l [] rfl
    refine ⟨n, ?_⟩
    have hlen : (((l.map Tm.id).length : Nat) : Int) = (l.length : Int) := by rw [List.length_map]
    unfold lIs ofF
    simp only [decide_true, Bool.not_true, cond_false, hlen]
    exact obs q rfl
  · rw [if_neg hc] at h; cases h
end
end Su
end
