/-
  Bits and rounding, in plain Lean. No condition.
-/
import Derived.Test.YtnegfdebjikfiaaGreatND11
import Derived.Test.YtnegfdebjikfiaaGreatNC19
import Derived.Test.YtnegfdebjikfiaaGreatSuSd
set_option maxRecDepth 10000
section
namespace Su
open Go Fly
def Wd64 (c : Int) : Prop := ∃ C : Nat, c = (C : Int) ∧ C < 18446744073709551616
theorem wd_of {c : Int} (h : inR .u64 c = true) : Wd64 c := asN64 h
theorem zI_iff {c : Int} : zI c = true ↔ bK c.toNat = 0 := by
  unfold zI; rw [beq_dec]; simp
theorem fI_iff {c : Int} : fI c = true ↔ bK c.toNat ≤ 9218868437227405311 := by unfold fI; exact finK_iff
theorem negI_nat (c : Int) : (negI c).toNat = negF c.toNat := Int.toNat_natCast _
theorem fI_neg {c : Int} (h : Wd64 c) : fI (negI c) = fI c := by
  obtain ⟨C, rfl, hC⟩ := h
  unfold fI; rw [negI_nat, Int.toNat_natCast, bK_neg hC]
theorem wd_neg {c : Int} (h : Wd64 c) : Wd64 (negI c) := by
  obtain ⟨C, rfl, hC⟩ := h
  exact ⟨negF C, rfl, negF_lt hC⟩
theorem wd_add {a b : Int} (ha : Wd64 a) (hb : Wd64 b) (m : Int) : Wd64 (addI a b m) := by
  obtain ⟨A, rfl, hA⟩ := ha
  obtain ⟨B, rfl, hB⟩ := hb
  exact ⟨addN A B m, rfl, addN_lt hA hB m⟩
structure Tells (a : Fm) : Prop where
  ok : a.1 = false
  wm : Wd64 a.2.1
  fm : fI a.2.1 = true
  nm : a.2.1 ≠ 9223372036854775808
  we : Wd64 a.2.2.2
  fe : fI a.2.2.2 = true
  se : Int.fdiv a.2.2.2 (2 ^ 63) = 0
  wt : ∀ t ∈ a.2.2.1, Wd64 t.c
  ft : ∀ t ∈ a.2.2.1, fI t.c = true
  zt : ∀ t ∈ a.2.2.1, zI t.c = false
  rise : riseF (-1) a.2.2.1 = true
theorem rise_facts : ∀ (l : List Tm) (k : Int), riseF k l = true → (∀ t ∈ l, fI t.c = true) ∧ ∀ t ∈ l, zI t.c = false
  | [], _, _ => ⟨by simp, by simp⟩
  | t :: l, k, h => by
    have h : (decide (k < t.id) && (!zI t.c && (fI t.c && riseF t.id l))) = true := h
    simp only [Bool.and_eq_true, Bool.not_eq_true'] at h
    obtain ⟨_, h1, h2, h3⟩ := h
    obtain ⟨i1, i2⟩ := rise_facts l t.id h3
    exact ⟨fun u hu => by rcases List.mem_cons.1 hu with rfl | hu; exact h2; exact i1 u hu, fun u hu => by rcases List.mem_cons.1 hu with rfl | hu; exact h1; exact i2 u hu⟩
theorem tells {a : Fm} (hb : a.1 = false) (hm : mayF a = true) (wm : Wd64 a.2.1) (we : Wd64 a.2.2.2) (wt : ∀ t ∈ a.2.2.1, Wd64 t.c) : Tells a := by
  rw [mayF_eq, hb, cond_false] at hm
  simp only [Bool.and_eq_true, Bool.not_eq_true', decide_eq_true_eq, decide_eq_false_iff_not] at hm
  obtain ⟨h1, h2, h3, h4, h5⟩ := hm
  obtain ⟨i1, i2⟩ := rise_facts _ _ h1
  exact ⟨hb, wm, h2, h3, we, h4, h5, wt, i1, i2, h1⟩
theorem okF_tells {a : Fm} (h : Tells a) : okF a = true := by
  unfold okF
  rw [h.ok, mayF_eq, h.ok, cond_false, h.rise, h.fm, h.fe, decide_eq_false h.nm, decide_eq_true h.se]
  rfl
end Su
end
section
namespace Su
open Go Fly
set_option linter.unusedVariables false
noncomputable section
def rPlus  (f : Int) : Option Int :=
  (bif (decide ((f = 9223372036854775808))) then
  some 0
 else
  some f)
def rAbs  (f : Int) : Option Int :=
  some (Fly.bitv Go.BinOp.and .u64 f 9223372036854775807)
def rMin  (f : Int) : Option Int :=
  some (Fly.bitv Go.BinOp.xor .u64 f 9223372036854775808)
def rAd  (a : Int) (b : Int) (m : Int) : Option Int :=
  ((Su.uAdd a b m)).bind fun x0 =>
  some x0.1
def rMl  (a : Int) (b : Int) (m : Int) : Option Int :=
  ((Su.uMul a b m)).bind fun x0 =>
  some x0.1
def flipN (f : Nat) : Nat := bif bS f then bK f else 9223372036854775808 + f
def flipI (f : Int) : Int := ((flipN f.toNat : Nat) : Int)
def absI (f : Int) : Int := ((bK f.toNat : Nat) : Int)
theorem wd_abs (c : Int) : Wd64 (absI c) := ⟨bK c.toNat, rfl, by have := bK_lt c.toNat; omega⟩
theorem flip_neg {f : Nat} (h : nanK (bK f) = false) : flipN f = negF f := by unfold flipN negF; rw [h]; rfl
theorem bK_flip {f : Nat} (h : f < 18446744073709551616) : bK (flipN f) = bK f := by
  unfold flipN
  cases hs : bS f with
  | true => rw [cond_true]; unfold bK; omega
  | false => have := bS_not.1 hs; rw [cond_false]; unfold bK; omega
theorem wd_mul {a b : Int} (ha : Wd64 a) (hb : Wd64 b) (m : Int) : Wd64 (mulI a b m) := by
  obtain ⟨A, rfl, hA⟩ := ha
  obtain ⟨B, rfl, hB⟩ := hb
  refine ⟨mulN A B m, rfl, ?_⟩
  rw [mulN_eq]
  unfold mulF
  have h1 := sgN_le (!decide (bS A = bS B))
  have h2 := RN_lt (!decide (bS A = bS B)) m (kM (bK A) * kM (bK B)) (kE (bK A) + kE (bK B) + 3852) false
  generalize RN (!decide (bS A = bS B)) m (kM (bK A) * kM (bK B)) (kE (bK A) + kE (bK B) + 3852) false = z at *
  generalize sgN (!decide (bS A = bS B)) = s at *
  cases nanK (bK A) <;> cases nanK (bK B) <;> cases ((infK (bK A) || infK (bK B)) && (Nat.beq (bK A) 0 || Nat.beq (bK B) 0)) <;> cases (infK (bK A) || infK (bK B)) <;> simp only [cond_true, cond_false] <;> omega
theorem add_flip {x y : Int} (hy : Wd64 y) (m : Int) : addI x (flipI y) m = addI x (negI y) m := by
  obtain ⟨Y, rfl, hY⟩ := hy
  unfold addI flipI negI
  simp only [Int.toNat_natCast]
  cases h : nanK (bK Y) with
  | false => rw [flip_neg h]
  | true =>
    have e1 : nanK (bK (flipN Y)) = true := by rw [bK_flip hY]; exact h
    have e2 : negF Y = Y := by unfold negF; rw [h]; rfl
    rw [e2, addN_eq, addN_eq]
    unfold addF
    rw [h, e1]
    cases nanK (bK x.toNat) <;> rfl
def rPlus_s (f : Int) : Option Int := some (nzI f)
theorem rPlus_ok (f : Int) (y : Int) (hg : (d1 (cI .u64)).good f) (h : rPlus_s f = some y) : rPlus f = some y := by
  have := soi h; subst this
  obtain ⟨n, rfl, hn⟩ := asN64 hg
  unfold rPlus nzI
  by_cases h1 : ((n : Nat) : Int) = 9223372036854775808
  · rw [decide_eq_true h1, cond_true, zI_iff.2 (by rw [Int.toNat_natCast]; unfold bK; omega), cond_true]
  · rw [decide_eq_false h1, cond_false]
    cases hz : zI (n : Int) with
    | false => rfl
    | true =>
      have := zI_iff.1 hz
      rw [Int.toNat_natCast] at this
      unfold bK at this
      have h0 : n = 0 := by omega
      subst h0; rfl
def rAbs_s (f : Int) : Option Int := some (absI f)
theorem rAbs_ok (f : Int) (y : Int) (hg : (d1 (cI .u64)).good f) (h : rAbs_s f = some y) : rAbs f = some y := by
  have := soi h; subst this
  obtain ⟨n, rfl, hn⟩ := asN64 hg
  unfold rAbs absI bK
  have := bv_mask n 9223372036854775807 63 rfl hn (by omega)
  rw [Int.toNat_natCast]
  exact congrArg some this
def rMin_s (f : Int) : Option Int := some (flipI f)
theorem rMin_ok (f : Int) (y : Int) (hg : (d1 (cI .u64)).good f) (h : rMin_s f = some y) : rMin f = some y := by
  have := soi h; subst this
  obtain ⟨n, rfl, hn⟩ := asN64 hg
  unfold rMin flipI flipN bK
  rw [Int.toNat_natCast, bv_turn n hn]
  cases hs : bS n with
  | true => have := bS_iff.1 hs; rw [cond_true, if_neg (by omega)]
  | false => have := bS_not.1 hs; rw [cond_false, if_pos this]
def rAd_s (p : Int × (Int × Int)) : Option Int := some (addI p.1 p.2.1 p.2.2)
theorem rAd_ok (p : Int × (Int × Int)) (y : Int) (hg : (dc (cI .u64) (dc (cI .u64) (d1 (cI .u8)))).good p) (h : rAd_s p = some y) : rAd p.1 p.2.1 p.2.2 = some y := by
  obtain ⟨a, b, mode⟩ := p
  obtain ⟨A, rfl, hA⟩ := asN64 hg.1
  obtain ⟨B, rfl, hB⟩ := asN64 hg.2.1
  have := soi h; subst this
  unfold rAd addI
  obtain ⟨fl, hfl⟩ := uAdd_val hA hB mode
  simp only [] at *
  rw [hfl, addN_eq]
  rfl
def rMl_s (p : Int × (Int × Int)) : Option Int := some (mulI p.1 p.2.1 p.2.2)
theorem rMl_ok (p : Int × (Int × Int)) (y : Int) (hg : (dc (cI .u64) (dc (cI .u64) (d1 (cI .u8)))).good p) (h : rMl_s p = some y) : rMl p.1 p.2.1 p.2.2 = some y := by
  obtain ⟨a, b, mode⟩ := p
  obtain ⟨A, rfl, hA⟩ := asN64 hg.1
  obtain ⟨B, rfl, hB⟩ := asN64 hg.2.1
  have := soi h; subst this
  unfold rMl mulI
  obtain ⟨fl, hfl⟩ := uMul_val (a := A) (b := B) mode
  simp only [] at *
  rw [hfl, mulN_eq]
  rfl
end
end Su
end
section
namespace Su
open Go Fly
def atN : List Tm → Int → Int
  | [], _ => 0
  | t :: l, i => bif decide (t.id = i) then t.c else atN l i
def idsN : Nat → List Int → List Int → List Int
  | 0, _, _ => []
  | _ + 1, [], [] => []
  | n + 1, a :: l, [] => a :: idsN n l []
  | n + 1, [], b :: m => b :: idsN n [] m
  | n + 1, a :: l, b :: m => bif decide (a < b) then a :: idsN n l (b :: m) else bif decide (b < a) then b :: idsN n (a :: l) m else a :: idsN n l m
def genR (f : Int → Int → Int → Int × Int) (x y : Int → Int) : List Int → Int → List Int × Int
  | [], e => ([], e)
  | i :: l, e => ((f e (x i) (y i)).1 :: (genR f x y l (f e (x i) (y i)).2).1, (genR f x y l (f e (x i) (y i)).2).2)
theorem genR_congr {f : Int → Int → Int → Int × Int} {x y x' y' : Int → Int} : ∀ {l : List Int} {e : Int}, (∀ i ∈ l, x i = x' i ∧ y i = y' i) → genR f x y l e = genR f x' y' l e
  | [], _, _ => rfl
  | i :: l, e, h => by
    obtain ⟨h1, h2⟩ := h i (List.mem_cons_self ..)
    simp only [genR, h1, h2]
    rw [genR_congr fun j hj => h j (List.mem_cons_of_mem _ hj)]
theorem genR_inv {f g : Int → Int → Int → Int × Int} {x y : Int → Int} {C : Int → Prop} : ∀ {l : List Int} {e : Int}, (∀ i ∈ l, ∀ e, C e → f e (x i) (y i) = g e (x i) (y i) ∧ C (g e (x i) (y i)).2) → C e → genR f x y l e = genR g x y l e
  | [], _, _, _ => rfl
  | i :: l, e, h, he => by
    obtain ⟨h1, h2⟩ := h i (List.mem_cons_self ..) e he
    simp only [genR, h1]
    rw [genR_inv (C := C) (fun j hj => h j (List.mem_cons_of_mem _ hj)) h2]
theorem rise_cons {k : Int} {t : Tm} {l : List Tm} (h : riseF k (t :: l) = true) : k < t.id ∧ riseF t.id l = true := by
  unfold riseF at h
  simp only [Bool.and_eq_true, decide_eq_true_eq] at h
  exact ⟨h.1, h.2.2.2⟩
theorem rise_lt : ∀ {l : List Tm} {k : Int}, riseF k l = true → ∀ i ∈ l.map Tm.id, k < i
  | [], _, _, i, hi => by cases hi
  | t :: l, k, h, i, hi => by
    obtain ⟨h1, h2⟩ := rise_cons h
    rw [List.map_cons] at hi
    rcases List.mem_cons.1 hi with rfl | hi
    · exact h1
    · have := rise_lt h2 i hi; omega
theorem at_none : ∀ {l : List Tm} {i : Int}, (∀ j ∈ l.map Tm.id, j ≠ i) → atN l i = 0
  | [], _, _ => rfl
  | t :: l, i, h => by
    unfold atN
    rw [decide_eq_false (h t.id (by simp)), cond_false]
    exact at_none fun j hj => h j (by rw [List.map_cons]; exact List.mem_cons_of_mem _ hj)
theorem at_hd (t : Tm) (l : List Tm) : atN (t :: l) t.id = t.c := by unfold atN; rw [decide_eq_true rfl, cond_true]
theorem at_tl {t : Tm} {l : List Tm} {i : Int} (h : t.id ≠ i) : atN (t :: l) i = atN l i := by
  show (bif decide (t.id = i) then t.c else atN l i) = _
  rw [decide_eq_false h, cond_false]
theorem ids_mem : ∀ {n : Nat} {l m : List Int} {i : Int}, i ∈ idsN n l m → i ∈ l ∨ i ∈ m
  | 0, _, _, _, h => by cases h
  | n + 1, [], [], _, h => by cases h
  | n + 1, a :: l, [], i, h => by
    rcases List.mem_cons.1 h with rfl | h
    · exact .inl (List.mem_cons_self ..)
    · rcases ids_mem h with h | h
      · exact .inl (List.mem_cons_of_mem _ h)
      · cases h
  | n + 1, [], b :: m, i, h => by
    rcases List.mem_cons.1 h with rfl | h
    · exact .inr (List.mem_cons_self ..)
    · rcases ids_mem h with h | h
      · cases h
      · exact .inr (List.mem_cons_of_mem _ h)
  | n + 1, a :: l, b :: m, i, h => by
    simp only [idsN] at h
    cases h1 : decide (a < b) with
    | true =>
      rw [h1, cond_true] at h
      rcases List.mem_cons.1 h with rfl | h
      · exact .inl (List.mem_cons_self ..)
      · rcases ids_mem h with h | h
        · exact .inl (List.mem_cons_of_mem _ h)
        · exact .inr h
    | false =>
      rw [h1, cond_false] at h
      cases h2 : decide (b < a) with
      | true =>
        rw [h2, cond_true] at h
        rcases List.mem_cons.1 h with rfl | h
        · exact .inr (List.mem_cons_self ..)
        · rcases ids_mem h with h | h
          · exact .inl h
          · exact .inr (List.mem_cons_of_mem _ h)
      | false =>
        rw [h2, cond_false] at h
        rcases List.mem_cons.1 h with rfl | h
        · exact .inl (List.mem_cons_self ..)
        · rcases ids_mem h with h | h
          · exact .inl (List.mem_cons_of_mem _ h)
          · exact .inr (List.mem_cons_of_mem _ h)
theorem merge_gen (f : Int → Int → Int → Int × Int) : ∀ (n : Nat) (l m : List Tm) (k : Int) (e : Int), l.length + m.length ≤ n → riseF k l = true → riseF k m = true →
    (mergeN f n l m e).1.map Tm.id = idsN n (l.map Tm.id) (m.map Tm.id) ∧ ((mergeN f n l m e).1.map Tm.c, (mergeN f n l m e).2) = genR f (atN l) (atN m) (idsN n (l.map Tm.id) (m.map Tm.id)) e
  | 0, _, _, _, _, _, _, _ => ⟨rfl, rfl⟩
  | n + 1, [], [], _, _, _, _, _ => ⟨rfl, rfl⟩
  | n + 1, a :: l, [], k, e, h, hl, hm => by
    obtain ⟨r1, r2⟩ := rise_cons hl
    obtain ⟨q1, q2⟩ := merge_gen f n l [] a.id (f e a.c 0).2 (by simp only [List.length_cons, List.length_nil] at h ⊢; omega) r2 rfl
    have hc := genR_congr (f := f) (x := atN (a :: l)) (y := atN []) (x' := atN l) (y' := atN []) (l := idsN n (l.map Tm.id) []) (e := (f e a.c 0).2) fun i hi => by
      rcases ids_mem hi with hi | hi
      · exact ⟨at_tl (by have := rise_lt r2 i hi; omega), rfl⟩
      · cases hi
    simp only [mergeN, stepM, List.map_cons, List.map_nil, idsN, genR] at *
    rw [at_hd, show atN [] a.id = 0 from rfl, hc, ← q2]
    exact ⟨by rw [q1], rfl⟩
  | n + 1, [], b :: m, k, e, h, hl, hm => by
    obtain ⟨r1, r2⟩ := rise_cons hm
    obtain ⟨q1, q2⟩ := merge_gen f n [] m b.id (f e 0 b.c).2 (by simp only [List.length_cons, List.length_nil] at h ⊢; omega) rfl r2
    have hc := genR_congr (f := f) (x := atN []) (y := atN (b :: m)) (x' := atN []) (y' := atN m) (l := idsN n [] (m.map Tm.id)) (e := (f e 0 b.c).2) fun i hi => by
      rcases ids_mem hi with hi | hi
      · cases hi
      · exact ⟨rfl, at_tl (by have := rise_lt r2 i hi; omega)⟩
    simp only [mergeN, stepM, List.map_cons, List.map_nil, idsN, genR] at *
    rw [at_hd, show atN [] b.id = 0 from rfl, hc, ← q2]
    exact ⟨by rw [q1], rfl⟩
  | n + 1, a :: l, b :: m, k, e, h, hl, hm => by
    obtain ⟨r1, r2⟩ := rise_cons hl
    obtain ⟨s1, s2⟩ := rise_cons hm
    simp only [List.length_cons] at h
    cases h1 : decide (a.id < b.id) with
    | true =>
      have h1' : a.id < b.id := of_decide_eq_true h1
      have hm' : riseF a.id (b :: m) = true := by
        unfold riseF at hm ⊢
        simp only [Bool.and_eq_true, decide_eq_true_eq] at hm ⊢
        exact ⟨h1', hm.2⟩
      obtain ⟨q1, q2⟩ := merge_gen f n l (b :: m) a.id (f e a.c 0).2 (by simp only [List.length_cons]; omega) r2 hm'
      have hc := genR_congr (f := f) (x := atN (a :: l)) (y := atN (b :: m)) (x' := atN l) (y' := atN (b :: m)) (l := idsN n (l.map Tm.id) ((b :: m).map Tm.id)) (e := (f e a.c 0).2) fun i hi => by
        have hlt : a.id < i := by
          rcases ids_mem hi with hi | hi
          · exact rise_lt r2 i hi
          · exact rise_lt hm' i hi
        exact ⟨at_tl (by omega), rfl⟩
      have h0 : atN (b :: m) a.id = 0 := at_none fun j hj => by have := rise_lt hm' j hj; omega
      simp only [mergeN, stepM, List.map_cons, idsN, genR, h1, cond_true] at *
      rw [at_hd, h0, hc, ← q2]
      exact ⟨by rw [q1], rfl⟩
    | false =>
      have h1' : ¬ a.id < b.id := of_decide_eq_false h1
      cases h2 : decide (b.id < a.id) with
      | true =>
        have h2' : b.id < a.id := of_decide_eq_true h2
        have hl' : riseF b.id (a :: l) = true := by
          unfold riseF at hl ⊢
          simp only [Bool.and_eq_true, decide_eq_true_eq] at hl ⊢
          exact ⟨h2', hl.2⟩
        obtain ⟨q1, q2⟩ := merge_gen f n (a :: l) m b.id (f e 0 b.c).2 (by simp only [List.length_cons]; omega) hl' s2
        have hc := genR_congr (f := f) (x := atN (a :: l)) (y := atN (b :: m)) (x' := atN (a :: l)) (y' := atN m) (l := idsN n ((a :: l).map Tm.id) (m.map Tm.id)) (e := (f e 0 b.c).2) fun i hi => by
          have hlt : b.id < i := by
            rcases ids_mem hi with hi | hi
            · exact rise_lt hl' i hi
            · exact rise_lt s2 i hi
          exact ⟨rfl, at_tl (by omega)⟩
        have h0 : atN (a :: l) b.id = 0 := at_none fun j hj => by have := rise_lt hl' j hj; omega
        simp only [mergeN, stepM, List.map_cons, idsN, genR, h1, h2, cond_true, cond_false] at *
        rw [at_hd, h0, hc, ← q2]
        exact ⟨by rw [q1], rfl⟩
      | false =>
        have h2' : ¬ b.id < a.id := of_decide_eq_false h2
        have hab : a.id = b.id := by omega
        obtain ⟨q1, q2⟩ := merge_gen f n l m a.id (f e a.c b.c).2 (by omega) r2 (by rw [hab]; exact s2)
        have hc := genR_congr (f := f) (x := atN (a :: l)) (y := atN (b :: m)) (x' := atN l) (y' := atN m) (l := idsN n (l.map Tm.id) (m.map Tm.id)) (e := (f e a.c b.c).2) fun i hi => by
          have hlt : a.id < i := by
            rcases ids_mem hi with hi | hi
            · exact rise_lt r2 i hi
            · rw [hab]; exact rise_lt s2 i hi
          exact ⟨at_tl (by omega), at_tl (by omega)⟩
        have h0 : atN (b :: m) a.id = b.c := by rw [hab]; exact at_hd b m
        simp only [mergeN, stepM, List.map_cons, idsN, genR, h1, h2, cond_false] at *
        rw [at_hd, h0, hc, ← q2]
        exact ⟨by rw [q1], rfl⟩
theorem ids_len : ∀ (n : Nat) (l m : List Int), (idsN n l m).length ≤ n
  | 0, _, _ => Nat.le_refl _
  | n + 1, [], [] => Nat.zero_le _
  | n + 1, a :: l, [] => Nat.succ_le_succ (ids_len n l [])
  | n + 1, [], b :: m => Nat.succ_le_succ (ids_len n [] m)
  | n + 1, a :: l, b :: m => by
    simp only [idsN]
    cases decide (a < b) with
    | true => exact Nat.succ_le_succ (ids_len n l (b :: m))
    | false =>
      cases decide (b < a) with
      | true => exact Nat.succ_le_succ (ids_len n (a :: l) m)
      | false => exact Nat.succ_le_succ (ids_len n l m)
def zipT : List Int → List Int → List Tm
  | i :: a, c :: b => ⟨i, c⟩ :: zipT a b
  | _, _ => []
theorem zip_map : ∀ l : List Tm, zipT (l.map Tm.id) (l.map Tm.c) = l
  | [] => rfl
  | t :: l => by rw [List.map_cons, List.map_cons, zipT, zip_map l]
theorem zip_id : ∀ {a b : List Int}, a.length = b.length → (zipT a b).map Tm.id = a
  | [], [], _ => rfl
  | [], _ :: _, h => by cases h
  | _ :: _, [], h => by cases h
  | i :: a, c :: b, h => by rw [zipT, List.map_cons, zip_id (Nat.succ.inj h)]
theorem zip_c : ∀ {a b : List Int}, a.length = b.length → (zipT a b).map Tm.c = b
  | [], [], _ => rfl
  | [], _ :: _, h => by cases h
  | _ :: _, [], h => by cases h
  | i :: a, c :: b, h => by rw [zipT, List.map_cons, zip_c (Nat.succ.inj h)]
end Su
end
