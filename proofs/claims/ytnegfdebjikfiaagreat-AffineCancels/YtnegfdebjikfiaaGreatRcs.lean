/-
  Bits and rounding, in plain Lean. No condition.
-/
import Derived.Test.YtnegfdebjikfiaaGreatNC19
import Derived.Test.YtnegfdebjikfiaaGreatSuSd
section
namespace Su
open Go Fly
/-- A word of 64 bits. -/
def Wd64 (c : Int) : Prop := ∃ C : Nat, c = (C : Int) ∧ C < 18446744073709551616
theorem wd_of {c : Int} (h : inR .u64 c = true) : Wd64 c := asN64 h
theorem zI_iff {c : Int} : zI c = true ↔ bK c.toNat = 0 := by
  unfold zI; rw [beq_dec]; simp
theorem zI_not {c : Int} : zI c = false ↔ bK c.toNat ≠ 0 := by
  unfold zI; rw [beq_dec]; simp
theorem fI_iff {c : Int} : fI c = true ↔ bK c.toNat ≤ 9218868437227405311 := by unfold fI; exact finK_iff
theorem negI_nat (c : Int) : (negI c).toNat = negF c.toNat := Int.toNat_natCast _
theorem addI_nat (a b m : Int) : (addI a b m).toNat = addF a.toNat b.toNat m := by unfold addI; rw [Int.toNat_natCast, addN_eq]
theorem zI_neg {c : Int} (h : Wd64 c) : zI (negI c) = zI c := by
  obtain ⟨C, rfl, hC⟩ := h
  unfold zI; rw [negI_nat, Int.toNat_natCast, bK_neg hC]
theorem fI_neg {c : Int} (h : Wd64 c) : fI (negI c) = fI c := by
  obtain ⟨C, rfl, hC⟩ := h
  unfold fI; rw [negI_nat, Int.toNat_natCast, bK_neg hC]
theorem wd_neg {c : Int} (h : Wd64 c) : Wd64 (negI c) := by
  obtain ⟨C, rfl, hC⟩ := h
  exact ⟨negF C, rfl, negF_lt hC⟩
theorem wd_add {a b : Int} (ha : Wd64 a) (hb : Wd64 b) (m : Int) : Wd64 (addI a b m) := by
  obtain ⟨A, rfl, hA⟩ := ha
  obtain ⟨B, rfl, hB⟩ := hb
  exact ⟨addN A B m, rfl, addN_lt hA hB m⟩
theorem add_neg {c : Int} (h : Wd64 c) (hf : fI c = true) (mode : Int) : addI c (negI c) mode = ((sgN (decide (mode = 2)) : Nat) : Int) := by
  obtain ⟨C, rfl, hC⟩ := h
  have := sub_self' (mode := mode) hC (fI_iff.1 hf)
  unfold addI
  rw [addN_eq, negI_nat]
  simp only [Int.toNat_natCast]
  rw [this]
theorem sg0 : ((sgN (decide ((0 : Int) = 2)) : Nat) : Int) = 0 := rfl
theorem sg1 : ((sgN (decide ((1 : Int) = 2)) : Nat) : Int) = 0 := rfl
theorem sg2 : ((sgN (decide ((2 : Int) = 2)) : Nat) : Int) = 9223372036854775808 := rfl
theorem ne_of_zI {c : Int} (h : zI c = false) : c ≠ 0 := fun e => by subst e; cases h
theorem dbl_nz {c : Int} (h : Wd64 c) (hf : fI c = true) (hz : zI c = false) : zI (addI c c 0) = false := by
  obtain ⟨C, rfl, hC⟩ := h
  have h1 : bK C ≤ 9218868437227405311 := fI_iff.1 hf
  have h2 : bK C ≠ 0 := zI_not.1 hz
  rw [zI_not, addI_nat]
  simp only [Int.toNat_natCast]
  rw [dbl_add h1 h2]
  have hlt : finN false (dblK (bK C)) < 9223372036854775808 := by have := finN_le false (dblK (bK C)); omega
  rw [(bK_sg hlt).1]
  have := dblK_pos h2
  unfold finN topN
  cases Nat.ble (dblK (bK C)) 9218868437227405311 <;> simp only [cond_true, cond_false] <;> omega
theorem dbl_back {c : Int} (h : Wd64 c) (hf : fI c = true) (hz : zI c = false) (hd : fI (addI c c 0) = true) : addI (addI c c 0) (negI c) 0 = c := by
  obtain ⟨C, rfl, hC⟩ := h
  have h1 : bK C ≤ 9218868437227405311 := fI_iff.1 hf
  have h2 : bK C ≠ 0 := zI_not.1 hz
  have h3 := fI_iff.1 hd
  rw [addI_nat] at h3
  simp only [Int.toNat_natCast] at h3
  have := (dbl_sub hC h1 h2 h3).2
  have e1 : addI (addI (C : Int) (C : Int) 0) (negI (C : Int)) 0 = ((addF (addI (C : Int) (C : Int) 0).toNat (negI (C : Int)).toNat 0 : Nat) : Int) := by
    show ((addN _ _ _ : Nat) : Int) = _
    rw [addN_eq]
  rw [e1, addI_nat, negI_nat]
  simp only [Int.toNat_natCast]
  rw [this]
/-! ### Rows of the same IDs -/
theorem merge_same (f g : Tm → Tm) : ∀ (l : List Tm) (n : Nat) (e : Int), l.length + l.length ≤ n → (∀ t ∈ l, (f t).id = t.id ∧ (g t).id = t.id ∧ (f t).c ≠ 0 ∧ (g t).c ≠ 0) →
    mergeN sumD n (l.map f) (l.map g) e = (l.map fun t => ⟨t.id, addI (f t).c (g t).c 0⟩, l.foldl (fun e t => upI [e, slkA (f t).c (g t).c]) e)
  | [], n, e, _, _ => by cases n <;> rfl
  | t :: l, 0, e, h, _ => by simp at h
  | t :: l, n + 1, e, h, hp => by
    obtain ⟨h1, h2, h3, h4⟩ := hp t (List.mem_cons_self ..)
    have ih := merge_same f g l n (upI [e, slkA (f t).c (g t).c]) (by simp at h; omega) fun u hu => hp u (List.mem_cons_of_mem _ hu)
    simp only [List.map_cons, mergeN]
    rw [h1, h2, decide_eq_false (by omega), cond_false]
    simp only [sumD]
    simp only [decide_eq_false h3, decide_eq_false h4, cond_false, stepM]
    rw [ih]
    rfl
theorem map_same (l : List Tm) : l.map (fun t => t) = l := List.map_id' l
theorem delZ_all {l : List Tm} (h : ∀ t ∈ l, zI t.c = false) : delZ l = l := delZ_none h
/-- What is known of a form that tells something. -/
structure Tells (a : Fm) : Prop where
  ok : a.1 = false
  wm : Wd64 a.2.1
  fm : fI a.2.1 = true
  nm : a.2.1 ≠ 9223372036854775808
  we : Wd64 a.2.2.2
  fe : fI a.2.2.2 = true
  se : Int.fdiv a.2.2.2 (2 ^ 63) = 0
  wt : ∀ t ∈ a.2.2.1, Wd64 t.c
  ft : ∀ t ∈ a.2.2.1, fI t.c = true
  zt : ∀ t ∈ a.2.2.1, zI t.c = false
  rise : riseF (-1) a.2.2.1 = true
theorem rise_facts : ∀ (l : List Tm) (k : Int), riseF k l = true → (∀ t ∈ l, fI t.c = true) ∧ ∀ t ∈ l, zI t.c = false
  | [], _, _ => ⟨by simp, by simp⟩
  | t :: l, k, h => by
    have h : (decide (k < t.id) && (!zI t.c && (fI t.c && riseF t.id l))) = true := h
    simp only [Bool.and_eq_true, Bool.not_eq_true'] at h
    obtain ⟨_, h1, h2, h3⟩ := h
    obtain ⟨i1, i2⟩ := rise_facts l t.id h3
    exact ⟨fun u hu => by rcases List.mem_cons.1 hu with rfl | hu; exact h2; exact i1 u hu, fun u hu => by rcases List.mem_cons.1 hu with rfl | hu; exact h1; exact i2 u hu⟩
theorem tells {a : Fm} (hb : a.1 = false) (hm : mayF a = true) (wm : Wd64 a.2.1) (we : Wd64 a.2.2.2) (wt : ∀ t ∈ a.2.2.1, Wd64 t.c) : Tells a := by
  rw [mayF_eq, hb, cond_false] at hm
  simp only [Bool.and_eq_true, Bool.not_eq_true', decide_eq_true_eq, decide_eq_false_iff_not] at hm
  obtain ⟨h1, h2, h3, h4, h5⟩ := hm
  obtain ⟨i1, i2⟩ := rise_facts _ _ h1
  exact ⟨hb, wm, h2, h3, we, h4, h5, wt, i1, i2, h1⟩
theorem rise_map (f : Tm → Tm) : ∀ (l : List Tm) (k : Int), (∀ t ∈ l, (f t).id = t.id ∧ zI (f t).c = zI t.c ∧ fI (f t).c = fI t.c) → riseF k (l.map f) = riseF k l
  | [], _, _ => rfl
  | t :: l, k, h => by
    obtain ⟨h1, h2, h3⟩ := h t (List.mem_cons_self ..)
    show (decide (k < (f t).id) && (!zI (f t).c && (fI (f t).c && riseF (f t).id (l.map f)))) = (decide (k < t.id) && (!zI t.c && (fI t.c && riseF t.id l)))
    rw [h1, h2, h3, rise_map f l t.id fun u hu => h u (List.mem_cons_of_mem _ hu)]
theorem okF_tells {a : Fm} (h : Tells a) : okF a = true := by
  unfold okF
  rw [h.ok, mayF_eq, h.ok, cond_false, h.rise, h.fm, h.fe, decide_eq_false h.nm, decide_eq_true h.se]
  rfl
theorem zero_m {m : Int} (w : Wd64 m) (hn : m ≠ 9223372036854775808) (hz : zI m = true) : m = 0 := by
  obtain ⟨M, rfl, hM⟩ := w
  have h := zI_iff.1 hz
  rw [Int.toNat_natCast] at h
  unfold bK at h
  have : M ≠ 9223372036854775808 := fun e => hn (by subst e; rfl)
  omega
theorem nz_e {e : Int} (w : Wd64 e) (hs : Int.fdiv e (2 ^ 63) = 0) : nzI e = e := by
  unfold nzI
  cases hz : zI e with
  | false => rfl
  | true =>
    rw [cond_true]
    obtain ⟨E, rfl, hE⟩ := w
    have h := zI_iff.1 hz
    rw [Int.toNat_natCast] at h
    unfold bK at h
    rw [fd_pow] at hs
    have : E / 2 ^ 63 = 0 := by omega
    omega
/-- The other sign. -/
theorem neg_tells {a : Fm} (h : Tells a) : negFm a = (false, (nzI (negI a.2.1), (a.2.2.1.map negT, a.2.2.2))) ∧ Tells (negFm a) := by
  have hd : delZ (a.2.2.1.map negT) = a.2.2.1.map negT := delZ_all fun t ht => by
    obtain ⟨u, hu, rfl⟩ := List.mem_map.1 ht
    show zI (negI u.c) = false
    rw [zI_neg (h.wt u hu)]; exact h.zt u hu
  have hfm : fI (nzI (negI a.2.1)) = true := by
    unfold nzI
    cases zI (negI a.2.1) with
    | true => rfl
    | false => rw [cond_false, fI_neg h.wm]; exact h.fm
  have hany : ((a.2.2.1.map negT).any fun t => !fI t.c) = false := by
    rw [List.any_eq_false]
    intro t ht
    obtain ⟨u, hu, rfl⟩ := List.mem_map.1 ht
    show ¬ (!fI (negI u.c)) = true
    rw [fI_neg (h.wt u hu), h.ft u hu]; simp
  have e1 : negFm a = (false, (nzI (negI a.2.1), (a.2.2.1.map negT, a.2.2.2))) := by
    unfold negFm
    rw [okF_tells h, cond_true, doneF_eq]
    simp only []
    rw [hd, hfm, hany, nz_e h.we h.se, h.fe]
    rfl
  refine ⟨e1, ?_⟩
  rw [e1]
  exact {
    ok := rfl
    wm := by
      show Wd64 (nzI (negI a.2.1))
      unfold nzI
      cases zI (negI a.2.1) with
      | true => exact ⟨0, rfl, by omega⟩
      | false => exact wd_neg h.wm
    fm := hfm
    nm := by
      show nzI (negI a.2.1) ≠ 9223372036854775808
      unfold nzI
      cases hz : zI (negI a.2.1) with
      | true => rw [cond_true]; simp
      | false =>
        rw [cond_false]
        intro e
        rw [e] at hz; cases hz
    we := h.we
    fe := h.fe
    se := h.se
    wt := fun t ht => by
      obtain ⟨u, hu, rfl⟩ := List.mem_map.1 ht
      exact wd_neg (h.wt u hu)
    ft := fun t ht => by
      obtain ⟨u, hu, rfl⟩ := List.mem_map.1 ht
      show fI (negI u.c) = true
      rw [fI_neg (h.wt u hu)]; exact h.ft u hu
    zt := fun t ht => by
      obtain ⟨u, hu, rfl⟩ := List.mem_map.1 ht
      show zI (negI u.c) = false
      rw [zI_neg (h.wt u hu)]; exact h.zt u hu
    rise := by
      show riseF (-1) (a.2.2.1.map negT) = true
      rw [rise_map negT _ _ fun t ht => ⟨rfl, zI_neg (h.wt t ht), fI_neg (h.wt t ht)⟩]; exact h.rise }
/-- What is left of a middle less itself. -/
theorem mid_less {a : Fm} (h : Tells a) : addI a.2.1 (nzI (negI a.2.1)) 0 = 0 ∧ slkA a.2.1 (nzI (negI a.2.1)) = 0 := by
  have z00 : ∀ m : Int, addI 0 0 m = 0 := fun m => by
    have e : addI 0 0 m = ((addF 0 0 m : Nat) : Int) := by show ((addN _ _ _ : Nat) : Int) = _; rw [addN_eq]; rfl
    rw [e, addF_zz rfl rfl]; rfl
  have n0 : negI 0 = 9223372036854775808 := rfl
  have nb : negI 9223372036854775808 = 0 := rfl
  have zb : addI 0 9223372036854775808 1 = 0 := by
    have e : addI 0 9223372036854775808 1 = ((addF 0 9223372036854775808 1 : Nat) : Int) := by show ((addN _ _ _ : Nat) : Int) = _; rw [addN_eq]; rfl
    rw [e, addF_zz rfl rfl]; rfl
  cases hz : zI a.2.1 with
  | true =>
    have h0 := zero_m h.wm h.nm hz
    rw [h0]
    have e1 : nzI (negI 0) = 0 := rfl
    unfold slkA
    rw [e1, z00, z00, z00, n0, zb]
    exact ⟨rfl, rfl⟩
  | false =>
    have e1 : nzI (negI a.2.1) = negI a.2.1 := by unfold nzI; rw [zI_neg h.wm, hz]; rfl
    unfold slkA
    rw [e1, add_neg h.wm h.fm, add_neg h.wm h.fm, add_neg h.wm h.fm, sg0, sg1, sg2, nb, z00]
    exact ⟨rfl, rfl⟩
/-- **A form less itself has no terms, and Mid 0.** -/
theorem sub_less {a : Fm} (h : Tells a) : (subFm a a).1 = true ∨ ((subFm a a).1 = false ∧ (subFm a a).2.1 = 0 ∧ (subFm a a).2.2.1 = []) := by
  obtain ⟨e1, hN⟩ := neg_tells h
  unfold subFm
  rw [addFm_eq]
  unfold addO'
  rw [okF_tells h, okF_tells hN, e1]
  simp only [Bool.and_true, cond_true]
  have hm := merge_same (fun t => t) negT a.2.2.1 (a.2.2.1.length + (a.2.2.1.map negT).length) (upI [a.2.2.2, a.2.2.2, slkA a.2.1 (nzI (negI a.2.1))]) (by simp) fun t ht => ⟨rfl, rfl, ne_of_zI (h.zt t ht), ne_of_zI (by show zI (negI t.c) = false; rw [zI_neg (h.wt t ht)]; exact h.zt t ht)⟩
  rw [map_same] at hm
  rw [hm, (mid_less h).1]
  simp only []
  generalize List.foldl _ _ _ = E
  have hz : delZ (a.2.2.1.map fun t => (⟨t.id, addI t.c (negT t).c 0⟩ : Tm)) = [] := by
    unfold delZ
    rw [List.filter_eq_nil_iff]
    intro t ht
    obtain ⟨u, hu, rfl⟩ := List.mem_map.1 ht
    show ¬ (!zI (addI u.c (negI u.c) 0)) = true
    rw [add_neg (h.wt u hu) (h.ft u hu), sg0]; simp [zI_0]
  rw [doneF_eq]
  simp only []
  rw [hz]
  cases fI (nzI E) with
  | true => right; exact ⟨rfl, rfl, rfl⟩
  | false => left; rfl
theorem up_zero (l : List Int) (h : ∀ x ∈ l, x = 0) : upI l = 0 := by
  have z : addN 0 0 1 = 0 := by rw [addN_eq, addF_zz rfl rfl]; rfl
  have : ∀ l : List Int, (∀ x ∈ l, x = 0) → upS 0 l = 0 := by
    intro l
    induction l with
    | nil => intro _; rfl
    | cons x l ih =>
      intro h
      have hx := h x (List.mem_cons_self ..)
      subst hx
      show upS (addN 0 (0 : Int).toNat 1) l = 0
      rw [show (0 : Int).toNat = 0 from rfl, z]
      exact ih fun y hy => h y (List.mem_cons_of_mem _ hy)
  unfold upI; rw [this l h]; rfl
theorem slk_neg {c : Int} (w : Wd64 c) (hf : fI c = true) : slkA c (negI c) = 0 := by
  have z00 : addI 0 0 1 = 0 := by
    have e : addI 0 0 1 = ((addF 0 0 1 : Nat) : Int) := by show ((addN _ _ _ : Nat) : Int) = _; rw [addN_eq]; rfl
    rw [e, addF_zz rfl rfl]; rfl
  unfold slkA
  rw [add_neg w hf, add_neg w hf, sg1, sg2, show negI 9223372036854775808 = 0 from rfl, z00]
/-- Of a form without a rest nothing is left at all. -/
theorem sub_exact {a : Fm} (h : Tells a) (he : a.2.2.2 = 0) : (subFm a a).1 = false ∧ (subFm a a).2.2.2 = 0 := by
  obtain ⟨e1, hN⟩ := neg_tells h
  unfold subFm
  rw [addFm_eq]
  unfold addO'
  rw [okF_tells h, okF_tells hN, e1]
  simp only [Bool.and_true, cond_true]
  have hm := merge_same (fun t => t) negT a.2.2.1 (a.2.2.1.length + (a.2.2.1.map negT).length) (upI [a.2.2.2, a.2.2.2, slkA a.2.1 (nzI (negI a.2.1))]) (by simp) fun t ht => ⟨rfl, rfl, ne_of_zI (h.zt t ht), ne_of_zI (by show zI (negI t.c) = false; rw [zI_neg (h.wt t ht)]; exact h.zt t ht)⟩
  rw [map_same] at hm
  rw [hm, (mid_less h).1]
  simp only []
  have hE : List.foldl (fun (e : Int) (t : Tm) => upI [e, slkA t.c (negT t).c]) (upI [a.2.2.2, a.2.2.2, slkA a.2.1 (nzI (negI a.2.1))]) a.2.2.1 = 0 := by
    rw [(mid_less h).2, he, up_zero [0, 0, 0] (by simp)]
    have : ∀ l : List Tm, (∀ t ∈ l, Wd64 t.c ∧ fI t.c = true) → List.foldl (fun (e : Int) (t : Tm) => upI [e, slkA t.c (negT t).c]) 0 l = 0 := by
      intro l
      induction l with
      | nil => intro _; rfl
      | cons t l ih =>
        intro hl
        rw [List.foldl_cons]
        have e : upI [0, slkA t.c (negT t).c] = 0 := by
          obtain ⟨w, f⟩ := hl t (List.mem_cons_self ..)
          rw [show slkA t.c (negT t).c = 0 from slk_neg w f]; exact up_zero _ (by simp)
        rw [e]
        exact ih fun u hu => hl u (List.mem_cons_of_mem _ hu)
    exact this _ fun t ht => ⟨h.wt t ht, h.ft t ht⟩
  rw [hE]
  have hz : delZ (a.2.2.1.map fun t => (⟨t.id, addI t.c (negT t).c 0⟩ : Tm)) = [] := by
    unfold delZ
    rw [List.filter_eq_nil_iff]
    intro t ht
    obtain ⟨u, hu, rfl⟩ := List.mem_map.1 ht
    show ¬ (!zI (addI u.c (negI u.c) 0)) = true
    rw [add_neg (h.wt u hu) (h.ft u hu), sg0]; simp [zI_0]
  rw [doneF_eq]
  simp only []
  rw [hz]
  exact ⟨rfl, rfl⟩
/-- **Twice a form less that form is that form again.** -/
theorem twice {a : Fm} (h : Tells a) (hb : (subFm (addFm a a) a).1 = false) : (subFm (addFm a a) a).2.1 = a.2.1 ∧ (subFm (addFm a a) a).2.2.1 = a.2.2.1 := by
  obtain ⟨e1, hN⟩ := neg_tells h
  -- what twice the form is
  have hT : ∃ E', addFm a a = doneF (false, (addI a.2.1 a.2.1 0, (a.2.2.1.map (fun t => (⟨t.id, addI t.c t.c 0⟩ : Tm)), E'))) := by
    rw [addFm_eq]
    unfold addO'
    rw [okF_tells h]
    simp only [Bool.and_true, cond_true]
    have hm := merge_same (fun t => t) (fun t => t) a.2.2.1 (a.2.2.1.length + a.2.2.1.length) (upI [a.2.2.2, a.2.2.2, slkA a.2.1 a.2.1]) (Nat.le_refl _) fun t ht => ⟨rfl, rfl, ne_of_zI (h.zt t ht), ne_of_zI (h.zt t ht)⟩
    rw [map_same] at hm
    rw [hm]
    exact ⟨_, rfl⟩
  obtain ⟨E', hT⟩ := hT
  have hdz : delZ (a.2.2.1.map fun t => (⟨t.id, addI t.c t.c 0⟩ : Tm)) = a.2.2.1.map fun t => (⟨t.id, addI t.c t.c 0⟩ : Tm) := delZ_all fun t ht => by
    obtain ⟨u, hu, rfl⟩ := List.mem_map.1 ht
    exact dbl_nz (h.wt u hu) (h.ft u hu) (h.zt u hu)
  unfold subFm at hb ⊢
  rw [addFm_eq] at hb ⊢
  unfold addO' at hb ⊢
  rw [okF_tells hN] at hb ⊢
  cases hok : okF (addFm a a) with
  | false => rw [hok] at hb; simp [badF] at hb
  | true =>
    rw [hok] at hb
    simp only [Bool.and_true, cond_true] at hb ⊢
    have hT2 : addFm a a = bif ((fI (nzI (addI a.2.1 a.2.1 0)) && fI (nzI E')) && !((a.2.2.1.map fun t => (⟨t.id, addI t.c t.c 0⟩ : Tm)).any fun t => !fI t.c)) then (false, (nzI (addI a.2.1 a.2.1 0), (a.2.2.1.map (fun t => (⟨t.id, addI t.c t.c 0⟩ : Tm)), nzI E'))) else badF := by
      rw [hT, doneF_eq]
      simp only []
      rw [hdz]
    cases hc : ((fI (nzI (addI a.2.1 a.2.1 0)) && fI (nzI E')) && !((a.2.2.1.map fun t => (⟨t.id, addI t.c t.c 0⟩ : Tm)).any fun t => !fI t.c)) with
    | false => rw [hc, cond_false] at hT2; rw [hT2] at hok; simp [okF, badF] at hok
    | true =>
      rw [hc, cond_true] at hT2
      rw [hT2, e1] at hb ⊢
      simp only [] at hb ⊢
      simp only [Bool.and_eq_true, Bool.not_eq_true'] at hc
      obtain ⟨⟨hc1, _⟩, hc2⟩ := hc
      have hfin : ∀ t ∈ a.2.2.1, fI (addI t.c t.c 0) = true := fun t ht => by
        have := List.any_eq_false.1 hc2 ⟨t.id, addI t.c t.c 0⟩ (List.mem_map.2 ⟨t, ht, rfl⟩)
        simpa using this
      have hm := merge_same (fun t => (⟨t.id, addI t.c t.c 0⟩ : Tm)) negT a.2.2.1 ((a.2.2.1.map fun t => (⟨t.id, addI t.c t.c 0⟩ : Tm)).length + (a.2.2.1.map negT).length) (upI [nzI E', a.2.2.2, slkA (nzI (addI a.2.1 a.2.1 0)) (nzI (negI a.2.1))]) (by simp)
        fun t ht => ⟨rfl, rfl, ne_of_zI (dbl_nz (h.wt t ht) (h.ft t ht) (h.zt t ht)), ne_of_zI (by show zI (negI t.c) = false; rw [zI_neg (h.wt t ht)]; exact h.zt t ht)⟩
      rw [hm] at hb ⊢
      simp only [] at hb ⊢
      generalize List.foldl _ _ _ = E at hb ⊢
      have hl : (a.2.2.1.map fun t => (⟨t.id, addI (addI t.c t.c 0) (negT t).c 0⟩ : Tm)) = a.2.2.1 := by
        conv => rhs; rw [← map_same a.2.2.1]
        refine List.map_congr_left fun t ht => ?_
        show (⟨t.id, addI (addI t.c t.c 0) (negI t.c) 0⟩ : Tm) = t
        rw [dbl_back (h.wt t ht) (h.ft t ht) (h.zt t ht) (hfin t ht)]
      have hmid : addI (nzI (addI a.2.1 a.2.1 0)) (nzI (negI a.2.1)) 0 = a.2.1 ∧ nzI a.2.1 = a.2.1 := by
        have z00 : addI 0 0 0 = 0 := by
          have e : addI 0 0 0 = ((addF 0 0 0 : Nat) : Int) := by show ((addN _ _ _ : Nat) : Int) = _; rw [addN_eq]; rfl
          rw [e, addF_zz rfl rfl]; rfl
        cases hz : zI a.2.1 with
        | true =>
          have h0 := zero_m h.wm h.nm hz
          rw [h0, z00]
          exact ⟨by rw [show nzI 0 = 0 from rfl, show nzI (negI 0) = 0 from rfl, z00], rfl⟩
        | false =>
          have d1 := dbl_nz h.wm h.fm hz
          have e2 : nzI (addI a.2.1 a.2.1 0) = addI a.2.1 a.2.1 0 := by unfold nzI; rw [d1]; rfl
          have e3 : nzI (negI a.2.1) = negI a.2.1 := by unfold nzI; rw [zI_neg h.wm, hz]; rfl
          rw [e2] at hc1
          rw [e2, e3, dbl_back h.wm h.fm hz hc1]
          exact ⟨rfl, by unfold nzI; rw [hz]; rfl⟩
      rw [hl, hmid.1, doneF_eq] at hb ⊢
      simp only [] at hb ⊢
      rw [delZ_all h.zt, hmid.2] at hb ⊢
      cases hc3 : ((fI a.2.1 && fI (nzI E)) && !(a.2.2.1.any fun t => !fI t.c)) with
      | false => rw [hc3] at hb; simp [badF] at hb
      | true => exact ⟨rfl, rfl⟩
end Su
end
section
namespace Su
open Go Fly
set_option linter.unusedVariables false
noncomputable section
def lCan_l1 : (Bool × (Int × (Bool × (Int × ((List Su.Tm) × (Int × (Bool × (Int × ((List Su.Tm) × (Int × (Bool × (Int × ((List Su.Tm) × (Int × Unit)))))))))))))) → Option ((Bool × (Int × (Bool × (Int × ((List Su.Tm) × (Int × (Bool × (Int × ((List Su.Tm) × (Int × (Bool × (Int × ((List Su.Tm) × (Int × Unit)))))))))))))) ⊕ (Lp (Bool × (Int × (Bool × (Int × ((List Su.Tm) × (Int × (Bool × (Int × ((List Su.Tm) × (Int × (Bool × (Int × ((List Su.Tm) × (Int × Unit)))))))))))))) Bool)) := fun p3 => (bif (decide ((p3.2.1 < (((List.length p3.2.2.2.2.1) : Nat) : Int)))) then
  ((Su.idx p3.2.2.2.2.2.2.2.2.2.2.2.2.1 p3.2.1)).bind fun x4 =>
  ((Su.idx p3.2.2.2.2.1 p3.2.1)).bind fun x5 =>
  (bif (!((decide (((Su.Tm.id x4) = (Su.Tm.id x5)))) && ((decide (((Su.Tm.c x4) = (Su.Tm.c x5)))) && true))) then
  some (.inr (.ret false))
 else
  some (.inl (p3.1, ((Go.IntKind.wrap .i64 (p3.2.1 + 1)), (p3.2.2.1, (p3.2.2.2.1, (p3.2.2.2.2.1, (p3.2.2.2.2.2.1, (p3.2.2.2.2.2.2.1, (p3.2.2.2.2.2.2.2.1, (p3.2.2.2.2.2.2.2.2.1, (p3.2.2.2.2.2.2.2.2.2.1, (p3.2.2.2.2.2.2.2.2.2.2.1, (p3.2.2.2.2.2.2.2.2.2.2.2.1, (p3.2.2.2.2.2.2.2.2.2.2.2.2.1, (p3.2.2.2.2.2.2.2.2.2.2.2.2.2.1, ()))))))))))))))))
 else
  some (.inr (.exit 0 (p3.1, (p3.2.1, (p3.2.2.1, (p3.2.2.2.1, (p3.2.2.2.2.1, (p3.2.2.2.2.2.1, (p3.2.2.2.2.2.2.1, (p3.2.2.2.2.2.2.2.1, (p3.2.2.2.2.2.2.2.2.1, (p3.2.2.2.2.2.2.2.2.2.1, (p3.2.2.2.2.2.2.2.2.2.2.1, (p3.2.2.2.2.2.2.2.2.2.2.2.1, (p3.2.2.2.2.2.2.2.2.2.2.2.2.1, (p3.2.2.2.2.2.2.2.2.2.2.2.2.2.1, ())))))))))))))))))
def lCan_l2 : (Bool × (Int × (Bool × (Int × ((List Su.Tm) × (Int × (Bool × (Int × ((List Su.Tm) × (Int × (Bool × (Int × ((List Su.Tm) × (Int × Unit)))))))))))))) → Option ((Bool × (Int × (Bool × (Int × ((List Su.Tm) × (Int × (Bool × (Int × ((List Su.Tm) × (Int × (Bool × (Int × ((List Su.Tm) × (Int × Unit)))))))))))))) ⊕ (Lp (Bool × (Int × (Bool × (Int × ((List Su.Tm) × (Int × (Bool × (Int × ((List Su.Tm) × (Int × (Bool × (Int × ((List Su.Tm) × (Int × Unit)))))))))))))) Bool)) := fun p12 => (bif (decide ((p12.2.1 < (((List.length p12.2.2.2.2.1) : Nat) : Int)))) then
  ((Su.idx p12.2.2.2.2.2.2.2.2.2.2.2.2.1 p12.2.1)).bind fun x13 =>
  ((Su.idx p12.2.2.2.2.1 p12.2.1)).bind fun x14 =>
  (bif (!((decide (((Su.Tm.id x13) = (Su.Tm.id x14)))) && ((decide (((Su.Tm.c x13) = (Su.Tm.c x14)))) && true))) then
  some (.inr (.ret false))
 else
  some (.inl (p12.1, ((Go.IntKind.wrap .i64 (p12.2.1 + 1)), (p12.2.2.1, (p12.2.2.2.1, (p12.2.2.2.2.1, (p12.2.2.2.2.2.1, (p12.2.2.2.2.2.2.1, (p12.2.2.2.2.2.2.2.1, (p12.2.2.2.2.2.2.2.2.1, (p12.2.2.2.2.2.2.2.2.2.1, (p12.2.2.2.2.2.2.2.2.2.2.1, (p12.2.2.2.2.2.2.2.2.2.2.2.1, (p12.2.2.2.2.2.2.2.2.2.2.2.2.1, (p12.2.2.2.2.2.2.2.2.2.2.2.2.2.1, ()))))))))))))))))
 else
  some (.inr (.exit 0 (p12.1, (p12.2.1, (p12.2.2.1, (p12.2.2.2.1, (p12.2.2.2.2.1, (p12.2.2.2.2.2.1, (p12.2.2.2.2.2.2.1, (p12.2.2.2.2.2.2.2.1, (p12.2.2.2.2.2.2.2.2.1, (p12.2.2.2.2.2.2.2.2.2.1, (p12.2.2.2.2.2.2.2.2.2.2.1, (p12.2.2.2.2.2.2.2.2.2.2.2.1, (p12.2.2.2.2.2.2.2.2.2.2.2.2.1, (p12.2.2.2.2.2.2.2.2.2.2.2.2.2.1, ())))))))))))))))))
def lCan  (fu : Nat) (a : (Bool × (Int × ((List Su.Tm) × Int)))) : Option Bool :=
  (bif (decide ((40 < (((List.length a.2.2.1) : Nat) : Int)))) then
  some true
 else
  (bif a.1 then
  some true
 else
  (bif (!(Su.mayF (a.1, (a.2.1, (a.2.2.1, a.2.2.2))))) then
  some true
 else
  ((bif ((Su.lenOK a.2.2.1) && (Nat.ble ((List.length a.2.2.1) + (List.length (Su.negFm (a.1, (a.2.1, (a.2.2.1, a.2.2.2)))).2.2.1)) 549755813888)) then
  some (Su.subFm (a.1, (a.2.1, (a.2.2.1, a.2.2.2))) (a.1, (a.2.1, (a.2.2.1, a.2.2.2))))
 else
  none)).bind fun x0 =>
  (bif (decide ((a.2.2.2 = 0))) then
  (bif x0.1 then
  some false
 else
  (bif (!(decide ((x0.2.2.2 = 0)))) then
  some false
 else
  ((bif (Nat.ble ((List.length a.2.2.1) + (List.length a.2.2.1)) 549755813888) then
  some (Su.addFm (a.1, (a.2.1, (a.2.2.1, a.2.2.2))) (a.1, (a.2.1, (a.2.2.1, a.2.2.2))))
 else
  none)).bind fun x1 =>
  ((bif ((Su.lenOK a.2.2.1) && (Nat.ble ((List.length x1.2.2.1) + (List.length (Su.negFm (a.1, (a.2.1, (a.2.2.1, a.2.2.2)))).2.2.1)) 549755813888)) then
  some (Su.subFm (x1.1, (x1.2.1, (x1.2.2.1, x1.2.2.2))) (a.1, (a.2.1, (a.2.2.1, a.2.2.2))))
 else
  none)).bind fun x2 =>
  (bif x2.1 then
  (bif x0.1 then
  some true
 else
  (bif (decide ((x0.2.1 = 0))) then
  some (decide (((((List.length x0.2.2.1) : Nat) : Int) = 0)))
 else
  some false))
 else
  (bif (!(decide ((x2.2.1 = a.2.1)))) then
  some false
 else
  (bif (!(decide (((((List.length x2.2.2.1) : Nat) : Int) = (((List.length a.2.2.1) : Nat) : Int))))) then
  some false
 else
  (itP fu (lCan_l1) (true, (0, (a.1, (a.2.1, (a.2.2.1, (a.2.2.2, (x0.1, (x0.2.1, (x0.2.2.1, (x0.2.2.2, (x2.1, (x2.2.1, (x2.2.2.1, (x2.2.2.2, ()))))))))))))))).bind fun x6 =>
  (match x6 with
 | .exit i7 p8 => (bif (Nat.beq i7 0) then
  (bif p8.1 then
  (bif p8.2.2.2.2.2.2.1 then
  some true
 else
  (bif (decide ((p8.2.2.2.2.2.2.2.1 = 0))) then
  some (decide (((((List.length p8.2.2.2.2.2.2.2.2.1) : Nat) : Int) = 0)))
 else
  some false))
 else
  some false)
 else
  none)
 | .ret o9 => some o9))))))
 else
  ((bif (Nat.ble ((List.length a.2.2.1) + (List.length a.2.2.1)) 549755813888) then
  some (Su.addFm (a.1, (a.2.1, (a.2.2.1, a.2.2.2))) (a.1, (a.2.1, (a.2.2.1, a.2.2.2))))
 else
  none)).bind fun x10 =>
  ((bif ((Su.lenOK a.2.2.1) && (Nat.ble ((List.length x10.2.2.1) + (List.length (Su.negFm (a.1, (a.2.1, (a.2.2.1, a.2.2.2)))).2.2.1)) 549755813888)) then
  some (Su.subFm (x10.1, (x10.2.1, (x10.2.2.1, x10.2.2.2))) (a.1, (a.2.1, (a.2.2.1, a.2.2.2))))
 else
  none)).bind fun x11 =>
  (bif x11.1 then
  (bif x0.1 then
  some true
 else
  (bif (decide ((x0.2.1 = 0))) then
  some (decide (((((List.length x0.2.2.1) : Nat) : Int) = 0)))
 else
  some false))
 else
  (bif (!(decide ((x11.2.1 = a.2.1)))) then
  some false
 else
  (bif (!(decide (((((List.length x11.2.2.1) : Nat) : Int) = (((List.length a.2.2.1) : Nat) : Int))))) then
  some false
 else
  (itP fu (lCan_l2) (true, (0, (a.1, (a.2.1, (a.2.2.1, (a.2.2.2, (x0.1, (x0.2.1, (x0.2.2.1, (x0.2.2.2, (x11.1, (x11.2.1, (x11.2.2.1, (x11.2.2.2, ()))))))))))))))).bind fun x15 =>
  (match x15 with
 | .exit i16 p17 => (bif (Nat.beq i16 0) then
  (bif p17.1 then
  (bif p17.2.2.2.2.2.2.1 then
  some true
 else
  (bif (decide ((p17.2.2.2.2.2.2.2.1 = 0))) then
  some (decide (((((List.length p17.2.2.2.2.2.2.2.2.1) : Nat) : Int) = 0)))
 else
  some false))
 else
  some false)
 else
  none)
 | .ret o18 => some o18))))))))
theorem done_len (x : Fm) : (doneF x).2.2.1.length ≤ x.2.2.1.length := by
  rw [doneF_eq]
  cases ((fI (nzI x.2.1) && fI (nzI x.2.2.2)) && !((delZ x.2.2.1).any fun t => !fI t.c)) with
  | true => exact List.length_filter_le _ _
  | false => exact Nat.zero_le _
theorem mergeN_len (f : Int → Int → Int → Int × Int) : ∀ (n : Nat) (l m : List Tm) (e : Int), (mergeN f n l m e).1.length ≤ n
  | 0, _, _, _ => Nat.le_refl _
  | n + 1, [], [], _ => Nat.zero_le _
  | n + 1, a :: l, [], e => Nat.succ_le_succ (mergeN_len f n l [] _)
  | n + 1, [], b :: m, e => Nat.succ_le_succ (mergeN_len f n [] m _)
  | n + 1, a :: l, b :: m, e => by
    simp only [mergeN]
    cases decide (a.id < b.id) with
    | true => exact Nat.succ_le_succ (mergeN_len f n l (b :: m) _)
    | false =>
      cases decide (b.id < a.id) with
      | true => exact Nat.succ_le_succ (mergeN_len f n (a :: l) m _)
      | false => exact Nat.succ_le_succ (mergeN_len f n l m _)
theorem add_len (a b : Fm) : (addFm a b).2.2.1.length ≤ a.2.2.1.length + b.2.2.1.length := by
  rw [addFm_eq]
  unfold addO'
  cases okF a && okF b with
  | true => exact Nat.le_trans (done_len _) (mergeN_len _ _ _ _ _)
  | false => exact Nat.zero_le _
theorem can_loop (l : List Tm) (hl : l.length ≤ 40) (b d1 t1 : Bool) (m e d2 d4 t2 t4 : Int) (d3 : List Tm) : ∀ (rest A : List Tm), A ++ rest = l →
    ∃ n, itP n lCan_l1 (true, ((A.length : Int), (b, (m, (l, (e, (d1, (d2, (d3, (d4, (t1, (t2, (l, (t4, ())))))))))))))) = some (.exit 0 (true, ((l.length : Int), (b, (m, (l, (e, (d1, (d2, (d3, (d4, (t1, (t2, (l, (t4, ())))))))))))))))
  | [], A, hA => by
    rw [List.append_nil] at hA; subst hA
    refine ⟨1, ?_⟩
    rw [itP_s]
    simp only [lCan_l1]
    rw [decide_eq_false (by omega), cond_false]; rfl
  | t :: rest, A, hA => by
    have hNl : A.length + (rest.length + 1) = l.length := by rw [← hA]; simp
    have hg : idx l (A.length : Int) = some t := by
      rw [idx_nat, ← hA, List.getElem?_append_right (by omega), Nat.sub_self]; rfl
    obtain ⟨n, q⟩ := can_loop l hl b d1 t1 m e d2 d4 t2 t4 d3 rest (A ++ [t]) (by rw [← hA]; simp)
    refine ⟨n + 1, ?_⟩
    rw [itP_s]
    simp only [lCan_l1]
    rw [decide_eq_true (show (A.length : Int) < (l.length : Int) by omega), cond_true, hg, Option.bind_some, Option.bind_some, decide_eq_true rfl, decide_eq_true rfl]
    simp only [Bool.and_true, Bool.not_true, cond_false, Option.bind_some]
    rw [w64 (by omega) (by omega), show ((A.length : Int) + 1) = (((A ++ [t]).length : Nat) : Int) by simp]
    exact q
def lCan_s (_ : Fm) : Option Bool := some true
theorem lCan_ok (a : Fm) (y : Bool) (hg : (d1 cFrm).good a) (h : lCan_s a = some y) : ∃ n, lCan n a = some y := by
  obtain ⟨b, m, l, e⟩ := a
  have := soi h; subst this
  have wm : Wd64 m := wd_of hg.2.1
  have we : Wd64 e := wd_of hg.2.2.2
  have wt : ∀ t ∈ l, Wd64 (Tm.c t) := fun t ht => wd_of (hg.2.2.1.1 t ht).2
  unfold lCan
  simp only []
  by_cases h40 : 40 < (l.length : Int)
  · exact ⟨0, by rw [decide_eq_true h40]; rfl⟩
  simp only [decide_eq_false h40, cond_false]
  cases b with
  | true => exact ⟨0, rfl⟩
  | false =>
  simp only [cond_false]
  cases hm : mayF (false, (m, (l, e))) with
  | false => exact ⟨0, rfl⟩
  | true =>
  have ht : Tells (false, (m, (l, e))) := tells rfl hm wm we wt
  obtain ⟨e1, _⟩ := neg_tells ht
  have hnl : (negFm (false, (m, (l, e)))).2.2.1.length = l.length := by rw [e1]; simp
  have g1 : lenOK l = true := Nat.ble_eq_true_of_le (by omega)
  have g2 : Nat.ble (l.length + l.length) 549755813888 = true := Nat.ble_eq_true_of_le (by omega)
  have hTl := add_len (false, (m, (l, e))) (false, (m, (l, e)))
  have g3 : Nat.ble ((addFm (false, (m, (l, e))) (false, (m, (l, e)))).2.2.1.length + l.length) 549755813888 = true := Nat.ble_eq_true_of_le (by simp only [] at hTl; omega)
  have hd := sub_less ht
  have he0 := sub_exact ht
  have h2 := twice ht
  simp only [Bool.not_true, cond_false, hnl, g1, g2, Bool.and_true, cond_true, Option.bind_some]
  simp only [] at hd he0 h2
  have g3' : Nat.ble ((addFm (false, (m, (l, e))) (false, (m, (l, e)))).2.2.1.length + l.length) 549755813888 = true := g3
  simp only [g3', cond_true, Option.bind_some]
  have eta : ((addFm (false, (m, (l, e))) (false, (m, (l, e)))).1, ((addFm (false, (m, (l, e))) (false, (m, (l, e)))).2.1, ((addFm (false, (m, (l, e))) (false, (m, (l, e)))).2.2.1, (addFm (false, (m, (l, e))) (false, (m, (l, e)))).2.2.2))) = addFm (false, (m, (l, e))) (false, (m, (l, e))) := rfl
  rw [eta]
  have l21 : lCan_l2 = lCan_l1 := rfl
  rw [l21]
  generalize subFm (addFm (false, (m, (l, e))) (false, (m, (l, e)))) (false, (m, (l, e))) = t at *
  generalize subFm (false, (m, (l, e))) (false, (m, (l, e))) = d at *
  obtain ⟨d1, d2, d3, d4⟩ := d
  obtain ⟨t1, t2, t3, t4⟩ := t
  simp only [] at hd he0 h2 ⊢
  have hfin : (bif d1 then some true else (bif (decide (d2 = 0)) then some (decide (((d3.length : Nat) : Int) = 0)) else some false)) = some true := by
    rcases hd with hd | ⟨q1, q2, q3⟩
    · subst hd; rfl
    · subst q1 q2 q3; rfl
  rw [hfin]
  simp only [Bool.and_self, cond_true, Option.bind_some]
  cases t1 with
  | true =>
    refine ⟨0, ?_⟩
    by_cases he : e = 0
    · obtain ⟨z1, z2⟩ := he0 he
      subst z1 z2
      rw [decide_eq_true he]; rfl
    · rw [decide_eq_false he]; rfl
  | false =>
    obtain ⟨q1, q2⟩ := h2 rfl
    subst q1 q2
    obtain ⟨n, q⟩ := can_loop t3 (by omega) false d1 false t2 e d2 d4 t2 t4 d3 t3 [] rfl
    refine ⟨n, ?_⟩
    have q' : itP n lCan_l1 (true, ((0 : Int), (false, (t2, (t3, (e, (d1, (d2, (d3, (d4, (false, (t2, (t3, (t4, ())))))))))))))) = some (.exit 0 (true, ((t3.length : Int), (false, (t2, (t3, (e, (d1, (d2, (d3, (d4, (false, (t2, (t3, (t4, ()))))))))))))))) := q
    simp only [cond_false, decide_true, Bool.not_true, q', Option.bind_some]
    rw [show Nat.beq 0 0 = true from rfl]
    simp only [cond_true, hfin]
    by_cases he : e = 0
    · obtain ⟨z1, z2⟩ := he0 he
      subst z1 z2
      rw [decide_eq_true he]; rfl
    · rw [decide_eq_false he]; rfl

end
end Su
end
