/-
  Bits and rounding, in plain Lean. No condition.
-/
import Derived.Test.YtfckjjffdfkelaaGreatRrt
import Derived.Test.YtfckjjffdfkelaaGreatSuSd
set_option maxRecDepth 10000
section
namespace Su
open Go Fly
set_option linter.unusedVariables false
noncomputable section
theorem noneC_1 {x : Su.Ce} {t : Int} (h : t = 1) : noneC x t = ((x.f == false) && ((x.t == false) && true)) := bifT (decide_eq_true h)
theorem noneC_2 {x : Su.Ce} {t : Int} (h : t = 2) : noneC x t = (bif (ivJn [x.i]).1 then true else (ckMt (x.d, x.p) (x.d, x.p)).1.1) := by
 subst h; rfl
theorem noneC_3 {x : Su.Ce} {t : Int} (h : t = 3) : noneC x t = (spJn [x.s]).1 := by
 subst h; rfl
theorem bareC_1 {x : Su.Ce} {t : Int} (h : t = 1) : bareC x t = ⟨x.f, x.t, iv0, iv0, iv0, iv0, 0, fm0⟩ := bifT (decide_eq_true h)
theorem bareC_2 {x : Su.Ce} {t : Int} (h : t = 2) : bareC x t = ⟨false, false, x.i, x.d, x.p, iv0, 0, fm0⟩ := by subst h; rfl
theorem bareC_3 {x : Su.Ce} {t : Int} (h : t = 3) : bareC x t = ⟨false, false, iv0, iv0, iv0, x.s, x.sl, x.fm⟩ := by subst h; rfl
theorem hasC_1 {x : Su.Ce} {v : Su.Vl} {k t : Int} (h : t = 1) (hv : v.type = t) : hasC t x v k = ((v.b && x.t) || (!v.b && x.f)) := by
 unfold hasC; rw [bifF (by rw [decide_eq_true hv]; rfl), bifT (decide_eq_true h)]
theorem hasC_2 {x : Su.Ce} {v : Su.Vl} {k t : Int} (h : t = 2) (hv : v.type = t) : hasC t x v k = (ivHas x.i v.i && ckHas (x.d, x.p) v.i k) := by
 unfold hasC; rw [bifF (by rw [decide_eq_true hv]; rfl), bifF (decide_eq_false (by omega)), bifT (decide_eq_true h)]
theorem hasC_3 {x : Su.Ce} {v : Su.Vl} {k t : Int} (h : t = 3) (hv : v.type = t) : hasC t x v k = (spHas x.s v.f && ofS x.fm v.f) := by
 unfold hasC; rw [bifF (by rw [decide_eq_true hv]; rfl), bifF (decide_eq_false (by omega)), bifF (decide_eq_false (by omega)), bifT (decide_eq_true h)]
theorem hasC_cases {t : Int} {x : Su.Ce} {v : Su.Vl} {k : Int} (h : hasC t x v k = true) : v.type = t ∧ (t = 1 ∨ t = 2 ∨ t = 3) := by
 unfold hasC at h
 by_cases hv : v.type = t
 · refine ⟨hv, ?_⟩
   rw [bifF (by rw [decide_eq_true hv]; rfl)] at h
   by_cases h1 : t = 1
   · exact .inl h1
   · rw [bifF (decide_eq_false h1)] at h
     by_cases h2 : t = 2
     · exact .inr (.inl h2)
     · rw [bifF (decide_eq_false h2)] at h
       by_cases h3 : t = 3
       · exact .inr (.inr h3)
       · rw [bifF (decide_eq_false h3)] at h; cases h
 · rw [bifT (by rw [decide_eq_false hv]; rfl)] at h; cases h
theorem ivHas_iff {s : Iv} {n : Int} : ivHas s n = true ↔ (ivN s).1 = false ∧ ((ivN s).2.1 = -1099511627776 ∨ (ivN s).2.1 ≤ n) ∧ ((ivN s).2.2 = 1099511627776 ∨ n ≤ (ivN s).2.2) := by
 unfold ivHas
 cases (ivN s).1 <;> simp
theorem ivHas_N (s : Iv) (n : Int) : ivHas (ivN s) n = ivHas s n := by unfold ivHas; rw [ivN_idem]
theorem ivHas_mt {a b : Iv} {n : Int} (h1 : ivHas a n = true) (h2 : ivHas b n = true) : ivHas (ivMt a b) n = true := by
 obtain ⟨a0, a1, a2⟩ := ivHas_iff.1 h1
 obtain ⟨b0, b1, b2⟩ := ivHas_iff.1 h2
 obtain ⟨p1, p2, p3, p4, p5⟩ := ivOk_false (ivN_ok a) a0
 obtain ⟨q1, q2, q3, q4, q5⟩ := ivOk_false (ivN_ok b) b0
 unfold ivMt
 rw [a0, b0]
 generalize ivN a = A at *
 generalize ivN b = B at *
 show ivHas (ivMk (max A.2.1 B.2.1) (min A.2.2 B.2.2)) n = true
 have ok : IvOk (false, (max A.2.1 B.2.1, min A.2.2 B.2.2)) := by
  refine .inr ⟨rfl, ?_, ?_, ?_, ?_, ?_⟩ <;> simp only [] <;> omega
 unfold ivMk
 rw [ivHas_N]
 refine ivHas_iff.2 ?_
 rw [ivN_id ok]
 refine ⟨rfl, ?_, ?_⟩ <;> simp only [] <;> omega
theorem ckN_ne {c : Ckp} {m n : Int} (h1 : ivHas (ckN c).1 m = true) (h2 : ivHas (ckN c).2 n = true) : (ckN c).1.1 = false ∧ (ckN c).2.1 = false := by
 have a := (ivHas_iff.1 h1).1
 have b := (ivHas_iff.1 h2).1
 rw [ckN_1] at a; rw [ckN_2] at b
 exact ⟨a, b⟩
theorem ckHas_iff {c : Ckp} {v k : Int} : ckHas c v k = true ↔ (-2199023255552 ≤ min v k ∧ max v k ≤ 2199023255552) ∧ ivHas (ckN c).1 (v - k) = true ∧ ivHas (ckN c).2 (v + k) = true := by
 unfold ckHas
 rw [Bool.and_eq_true, Bool.and_eq_true]
 simp only [Bool.not_eq_true', Bool.or_eq_false_iff, decide_eq_false_iff_not]
 constructor
 · rintro ⟨⟨a, b⟩, h⟩; exact ⟨⟨by omega, by omega⟩, h⟩
 · rintro ⟨⟨a, b⟩, h⟩; exact ⟨⟨by omega, by omega⟩, h⟩
theorem ckN_pair {a b : Iv} {m n : Int} (h1 : ivHas a m = true) (h2 : ivHas b n = true) : ivHas (ckN (a, b)).1 m = true ∧ ivHas (ckN (a, b)).2 n = true := by
 have e1 := (ivHas_iff.1 h1).1
 have e2 := (ivHas_iff.1 h2).1
 rw [ckN_val]
 show ivHas (bif (ivN a).1 || (ivN b).1 then ((noI, noI) : Ckp) else (ivN a, ivN b)).1 m = true ∧ ivHas (bif (ivN a).1 || (ivN b).1 then ((noI, noI) : Ckp) else (ivN a, ivN b)).2 n = true
 rw [e1, e2]
 exact ⟨by rw [← h1]; exact ivHas_N a m, by rw [← h2]; exact ivHas_N b n⟩
theorem ckHas_mt {a b : Ckp} {v k : Int} (h1 : ckHas a v k = true) (h2 : ckHas b v k = true) : ckHas (ckMt a b) v k = true := by
 obtain ⟨r, a1, a2⟩ := ckHas_iff.1 h1
 obtain ⟨-, b1, b2⟩ := ckHas_iff.1 h2
 refine ckHas_iff.2 ⟨r, ?_⟩
 unfold ckMt
 rw [ckN_idem]
 exact ckN_pair (ivHas_mt a1 b1) (ivHas_mt a2 b2)
theorem fin_fI' {f : Int} : fI f = true ↔ nanI f = false ∧ clsK (bK f.toNat) ≠ 3 := by
 unfold fI nanI
 rw [finK_iff, nanK_not, clsK_val]
 by_cases h : bK f.toNat = 9218868437227405312
 · rw [if_pos h]; omega
 · rw [if_neg h]
   constructor
   · intro h1
     refine ⟨by omega, ?_⟩
     rw [if_neg (by omega)]
     split <;> (try split) <;> omega
   · rintro ⟨h1, -⟩; omega
theorem spHas_iff {s : Spn} {f : Int} (hf : Fw f) (hs : SpW s) : spHas s f = true ↔ fI f = true ∧ (normS s).1 = false ∧ ky (normS s).2.1 ≤ ky f ∧ ky f ≤ ky (normS s).2.2 := by
 unfold spHas
 by_cases hc : clsK (bK f.toNat) = 3
 · rw [decide_eq_true hc]
   constructor
   · intro h; cases h
   · rintro ⟨h, -⟩; exact absurd hc (fin_fI'.1 h).2
 · rw [decide_eq_false hc]
   cases hn : nanI f with
   | true =>
    have e : spMk f f = noneS := by
     rcases normS_cases (s := (false, (f, f))) ⟨hf, hf⟩ with h | ⟨_, h, _⟩
     · exact h
     · rw [hn] at h; cases h
    rw [e]
    constructor
    · intro h; cases h
    · rintro ⟨h, -⟩; rw [(fin_fI'.1 h).1] at hn; cases hn
   | false =>
    have hfi : fI f = true := fin_fI'.2 ⟨hn, hc⟩
    have ok := normS_ok (s := (false, (f, f))) ⟨hf, hf⟩
    have hk := finK_iff.1 (show finK (bK f.toNat) = true from hfi)
    have hab := ky_abs f
    have n1 : f ≠ 9218868437227405312 := fun e => by subst e; revert hk; decide
    have n2 : f ≠ 18442240474082181120 := fun e => by subst e; revert hk; decide
    have e : spMk f f = (false, (nzI f, nzI f)) := by
     unfold spMk normS
     simp only []
     rw [leF_iff.2 ⟨hn, hn, Int.le_refl _⟩, decide_eq_false n1, decide_eq_false n2]; rfl
    have e2 : normS (spMk f f) = spMk f f := normS_id ok
    obtain ⟨z1, z2⟩ := nz_of hf hn
    unfold spIn
    rw [e2, e]
    simp only [Bool.not_false, Bool.true_and, Bool.false_or]
    cases h0 : (normS s).1 with
    | true => simp
    | false =>
     obtain ⟨a1, a2, -⟩ := spOk_false (normS_ok hs) h0
     simp only [Bool.not_false, Bool.true_and, Bool.and_eq_true]
     rw [leF_iff, leF_iff, z2]
     constructor
     · rintro ⟨⟨_, _, b1⟩, _, _, b2⟩; exact ⟨hfi, trivial, b1, b2⟩
     · rintro ⟨_, _, b1, b2⟩; exact ⟨⟨a1.n, z1.n, b1⟩, z1.n, a2.n, b2⟩
theorem has_bare {t : Int} {x : Su.Ce} {v : Su.Vl} {k : Int} (hw : SpW x.s) (hf : Fw v.f) (h : hasC t x v k = true) : noneC (bareC x t) t = false ∧ hasC t (bareC x t) v k = true := by
 obtain ⟨hv, ht⟩ := hasC_cases h
 rcases ht with ht | ht | ht
 · rw [hasC_1 ht hv] at h
   rw [noneC_1 ht, hasC_1 ht hv, bareC_1 ht]
   refine ⟨?_, h⟩
   show ((x.f == false) && ((x.t == false) && true)) = false
   cases hf : x.f <;> cases hx : x.t
   · rw [hf, hx] at h; simp at h
   · rfl
   · rfl
   · rfl
 · rw [hasC_2 ht hv, Bool.and_eq_true] at h
   rw [noneC_2 ht, hasC_2 ht hv, bareC_2 ht]
   refine ⟨?_, by rw [Bool.and_eq_true]; exact h⟩
   show (bif (ivJn [x.i]).1 then true else (ckMt (x.d, x.p) (x.d, x.p)).1.1) = false
   rw [ivJ1, bifF (ivHas_iff.1 h.1).1]
   obtain ⟨-, h1, h2⟩ := ckHas_iff.1 (ckHas_mt h.2 h.2)
   have := (ckN_ne h1 h2).1
   unfold ckMt at this ⊢
   rwa [ckN_idem] at this
 · rw [hasC_3 ht hv, Bool.and_eq_true] at h
   rw [noneC_3 ht, hasC_3 ht hv, bareC_3 ht]
   refine ⟨?_, by rw [Bool.and_eq_true]; exact h⟩
   show (spJn [x.s]).1 = false
   rw [spJ1 hw]; exact ((spHas_iff hf hw).1 h.1).2.1
theorem ivNeg_has {a : Iv} {n : Int} (h : ivHas a n = true) : ivHas (ivNeg a) (-n) = true := by
 obtain ⟨a0, a1, a2⟩ := ivHas_iff.1 h
 obtain ⟨p1, p2, p3, p4, p5⟩ := ivOk_false (ivN_ok a) a0
 unfold ivNeg
 rw [a0, cond_false]
 generalize ivN a = A at *
 have ok : IvOk (false, (-A.2.2, -A.2.1)) := by
  refine .inr ⟨rfl, ?_, ?_, ?_, ?_, ?_⟩ <;> simp only [] <;> omega
 unfold ivMk
 rw [ivHas_N]
 refine ivHas_iff.2 ?_
 rw [ivN_id ok]
 refine ⟨rfl, ?_, ?_⟩ <;> simp only [] <;> omega
theorem far_iff {n : Int} : ivFar n = true ↔ 1099511627776 ≤ n ∨ n ≤ -1099511627776 := by
 unfold ivFar; simp
theorem far_not {n : Int} : ivFar n = false ↔ n < 1099511627776 ∧ -1099511627776 < n := by
 unfold ivFar; simp
theorem ivAdd_has {a b : Iv} {m n : Int} (h1 : ivHas a m = true) (h2 : ivHas b n = true) : ivHas (ivAdd a b) (m + n) = true := by
 obtain ⟨a0, a1, a2⟩ := ivHas_iff.1 h1
 obtain ⟨b0, b1, b2⟩ := ivHas_iff.1 h2
 obtain ⟨p1, p2, p3, p4, p5⟩ := ivOk_false (ivN_ok a) a0
 obtain ⟨q1, q2, q3, q4, q5⟩ := ivOk_false (ivN_ok b) b0
 unfold ivAdd
 rw [a0, b0]
 simp only [Bool.or_self, cond_false]
 generalize ivN a = A at *
 generalize ivN b = B at *
 have hlo : ∃ lo, ivSum A.2.1 B.2.1 = lo ∧ (lo = -1099511627776 ∨ (-1099511627776 < lo ∧ lo ≤ 1099511627776 ∧ lo ≤ m + n)) := by
  refine ⟨_, rfl, ?_⟩
  unfold ivSum ivClip
  cases f1 : ivFar A.2.1 with
  | true => have := far_iff.1 f1; simp only [cond_true]; omega
  | false =>
   have := far_not.1 f1
   cases f2 : ivFar B.2.1 with
   | true => have := far_iff.1 f2; simp only [cond_true, cond_false]; omega
   | false => have := far_not.1 f2; simp only [cond_false]; omega
 have hhi : ∃ hi, ivSum A.2.2 B.2.2 = hi ∧ (hi = 1099511627776 ∨ (-1099511627776 ≤ hi ∧ hi < 1099511627776 ∧ m + n ≤ hi)) := by
  refine ⟨_, rfl, ?_⟩
  unfold ivSum ivClip
  cases f1 : ivFar A.2.2 with
  | true => have := far_iff.1 f1; simp only [cond_true]; omega
  | false =>
   have := far_not.1 f1
   cases f2 : ivFar B.2.2 with
   | true => have := far_iff.1 f2; simp only [cond_true, cond_false]; omega
   | false => have := far_not.1 f2; simp only [cond_false]; omega
 obtain ⟨lo, e1, hlo⟩ := hlo
 obtain ⟨hi, e2, hhi⟩ := hhi
 rw [e1, e2]
 unfold ivHull ivClip
 have ok : IvOk (false, (min (max (min lo 1099511627776) (-1099511627776)) 1099511627775, max (max (min hi 1099511627776) (-1099511627776)) (-1099511627775))) := by
  refine .inr ⟨rfl, ?_, ?_, ?_, ?_, ?_⟩ <;> simp only [] <;> omega
 refine ivHas_iff.2 ?_
 rw [ivN_id ok]
 refine ⟨rfl, ?_, ?_⟩ <;> simp only [] <;> omega
theorem ivSub_has {a b : Iv} {m n : Int} (h1 : ivHas a m = true) (h2 : ivHas b n = true) : ivHas (ivSub a b) (m - n) = true := by
 have := ivAdd_has h1 (ivNeg_has h2)
 rw [← Int.sub_eq_add_neg] at this; exact this
theorem ckOf_has {a b : Iv} {v k : Int} (h1 : ivHas a v = true) (h2 : ivHas b k = true) (hv : -2199023255552 ≤ min v k ∧ max v k ≤ 2199023255552) : ckHas (ckOf a b) v k = true := by
 refine ckHas_iff.2 ⟨hv, ?_⟩
 unfold ckOf
 rw [ckN_idem]
 exact ckN_pair (ivSub_has h1 h2) (ivAdd_has h1 h2)
theorem ivMk_has {lo hi n : Int} (h1 : lo ≤ n) (h2 : n ≤ hi) (h3 : -1099511627776 ≤ lo) (h4 : hi ≤ 1099511627776) (h5 : lo < 1099511627776) (h6 : -1099511627776 < hi) : ivHas (ivMk lo hi) n = true := by
 unfold ivMk
 rw [ivHas_N]
 refine ivHas_iff.2 ?_
 rw [ivN_id (.inr ⟨rfl, by simp only []; omega, h3, h5, h6, h4⟩)]
 exact ⟨rfl, .inr h1, .inr h2⟩
theorem cmp_le {a b : Int} (h : cmpO a.toNat b.toNat = true) (h' : decide (0 < cmpC a.toNat b.toNat) = false) : nanI a = false ∧ nanI b = false ∧ ky a ≤ ky b := by
 refine leF_iff.1 ?_
 unfold leF
 rw [h, Bool.true_and]
 exact decide_eq_true (by have := of_decide_eq_false h'; omega)
theorem in_has {s : StD} {d : Su.Cc} {v : Su.Vl} {k : Int} {x : Su.Ce} {i : Nat} (hi : d.input = true) (ho : okIn d v = true) (hk : ivHas (stK s) k = true) (k1 : -34359738368 ≤ k) (k2 : k ≤ 34359738368)
 (hfr : -2147483648 ≤ d.fr ∧ d.fr < 2147483648) (hto : -2147483648 ≤ d.to ∧ d.to < 2147483648) (hlo : Fw d.lo) (hhi : Fw d.hi) (hf : Fw v.f) :
 hasC d.type (inpF s i d x) v k = true := by
 have hx : inpF s i d x = ⟨true, true, inpIv d, (ckOf (inpIv d) (stK s)).1, (ckOf (inpIv d) (stK s)).2, spMk d.lo d.hi, 0, (true, (0, ([], 0)))⟩ := by unfold inpF; rw [hi]; rfl
 rw [hx]
 unfold okIn at ho
 by_cases hv : v.type = d.type
 · rw [bifF (by rw [decide_eq_true hv]; rfl)] at ho
   by_cases t1 : d.type = 1
   · rw [hasC_1 t1 hv]; simp
   · rw [bifF (decide_eq_false t1)] at ho
     by_cases t2 : d.type = 2
     · rw [bifT (decide_eq_true t2)] at ho
       simp only [Bool.and_eq_true, Bool.not_eq_true', decide_eq_false_iff_not] at ho
       obtain ⟨-, -, h1, h2⟩ := ho
       have e : inpIv d = ivMk d.fr d.to := by unfold inpIv; rw [w64 (by omega) (by omega), w64 (by omega) (by omega)]
       have h3 : ivHas (inpIv d) v.i = true := by rw [e]; exact ivMk_has (by omega) (by omega) (by omega) (by omega) (by omega) (by omega)
       rw [hasC_2 t2 hv, Bool.and_eq_true]
       exact ⟨h3, ckOf_has h3 hk (by omega)⟩
     · rw [bifF (decide_eq_false t2)] at ho
       by_cases t3 : d.type = 3
       · rw [bifT (decide_eq_true t3)] at ho
         simp only [Bool.and_eq_true, Bool.not_eq_true', decide_eq_true_eq] at ho
         obtain ⟨-, -, h1, h2, h3, h4, h5⟩ := ho
         obtain ⟨a1, a2, a3⟩ := cmp_le h1 h3
         obtain ⟨b1, b2, b3⟩ := cmp_le h2 h4
         rw [hasC_3 t3 hv, Bool.and_eq_true]
         have hw : SpW (false, (d.lo, d.hi)) := ⟨hlo, hhi⟩
         constructor
         · have hkk := finK_iff.1 h5
           have hab := ky_abs v.f
           have n1 : d.lo ≠ 9218868437227405312 := fun e => by rw [e, key_inf] at a3; omega
           have n2 : d.hi ≠ 18442240474082181120 := fun e => by rw [e, key_ninf] at b3; omega
           have e : spMk d.lo d.hi = (false, (nzI d.lo, nzI d.hi)) := by
            unfold spMk normS
            simp only []
            rw [leF_iff.2 ⟨a1, b2, by omega⟩, decide_eq_false n1, decide_eq_false n2]; rfl
           have e2 : normS (spMk d.lo d.hi) = spMk d.lo d.hi := normS_id (normS_ok hw)
           refine (spHas_iff (s := spMk d.lo d.hi) hf (normS_ok hw).w).2 ⟨h5, ?_, ?_, ?_⟩
           · rw [e2, e]
           · rw [e2, e]; show ky (nzI d.lo) ≤ _; rw [(nz_of hlo a1).2]; exact a3
           · rw [e2, e]; show _ ≤ ky (nzI d.hi); rw [(nz_of hhi b2).2]; exact b3
         · unfold ofS
           rw [fin_fI (show fI v.f = true from h5)]
           rfl
       · rw [bifF (decide_eq_false t3)] at ho; cases ho
 · rw [bifT (by rw [decide_eq_false hv]; rfl)] at ho; cases ho
end
end Su
end
section
namespace Su
open Go Fly
set_option linter.unusedVariables false
noncomputable section
theorem hasS_iff {c : CoD} {s : StD} {row : List Su.Vl} {k : Int} : hasS c s row k = true ↔ s.1 = false ∧ s.2.2.2.2.length = c.2.1.length ∧ row.length = c.2.1.length ∧ ivHas (stK s) k = true ∧ ∀ i, i < c.2.1.length → hsN c.2.1 s.2.2.2.2 row k i = true := by
 unfold hasS
 cases hd : s.1 with
 | true => simp
 | false =>
  by_cases h1 : s.2.2.2.2.length = c.2.1.length
  · by_cases h2 : row.length = c.2.1.length
    · cases hk : ivHas (stK s) k with
      | false => simp [h1, h2]
      | true =>
       simp only [cond_false, decide_eq_true h1, decide_eq_true h2, Bool.not_true]
       rw [allN_iff]
       exact ⟨fun h => ⟨trivial, h1, h2, trivial, h⟩, fun h => h.2.2.2.2⟩
    · rw [decide_eq_true h1, decide_eq_false h2]
      simp only [cond_false, cond_true, Bool.not_true, Bool.not_false]
      exact ⟨fun h => (by cases h), fun h => absurd h.2.2.1 h2⟩
  · rw [decide_eq_false h1]
    simp only [cond_false, cond_true, Bool.not_false]
    exact ⟨fun h => (by cases h), fun h => absurd h.2.1 h1⟩
theorem hsN_eq {C : List Su.Cc} {X : List Su.Ce} {row : List Su.Vl} {k : Int} {i : Nat} (h1 : i < C.length) (h2 : i < X.length) (h3 : i < row.length) : hsN C X row k i = hasC C[i].type X[i] row[i] k := by
 unfold hsN
 rw [List.getElem?_eq_getElem h1, List.getElem?_eq_getElem h2, List.getElem?_eq_getElem h3]
theorem stK_mk (K : Iv) (P : List Su.Ce) : stK (mkS K P) = K := rfl
theorem each_has {c : CoD} {s : StD} {N : List Su.Vl} {k : Int} {f : Nat → Su.Cc → Su.Ce → Su.Ce} (hd : s.1 = false) (hl : s.2.2.2.2.length = c.2.1.length) (hN : N.length = c.2.1.length) (hk : ivHas (stK s) k = true)
 (hw : ∀ (i : Nat) (hi : i < c.2.1.length), SpW (f i c.2.1[i] (s.2.2.2.2[i]'(by omega))).s) (hf : ∀ v ∈ N, Fw v.f)
 (hc : ∀ (i : Nat) (hi : i < c.2.1.length), hasC c.2.1[i].type (f i c.2.1[i] (s.2.2.2.2[i]'(by omega))) (N[i]'(by omega)) k = true) :
 ∃ P, eachS c s f = mkS (ivN (stK s)) P ∧ P.length = c.2.1.length ∧ (∀ (i : Nat) (hi : i < c.2.1.length), P[i]? = some (bareC (f i c.2.1[i] (s.2.2.2.2[i]'(by omega))) c.2.1[i].type)) ∧ hasS c (mkS (ivN (stK s)) P) N k = true := by
 have hK : (ivJn [stK s]).1 = false := by rw [ivJ1]; exact (ivHas_iff.1 hk).1
 have hbare := fun (i : Nat) (hi : i < c.2.1.length) => has_bare (hw i hi) (hf _ (List.getElem_mem (show i < N.length by omega))) (hc i hi)
 have hout : ∀ (i : Nat) (hi : i < c.2.1.length), eachC c.2.1 s.2.2.2.2 f i = some (bareC (f i c.2.1[i] (s.2.2.2.2[i]'(by omega))) c.2.1[i].type) := by
  intro i hi
  unfold eachC
  rw [List.getElem?_eq_getElem hi, List.getElem?_eq_getElem (show i < s.2.2.2.2.length by omega)]
  exact bifF (hbare i hi).1
 obtain ⟨P, hP⟩ := buildN_yes (out := eachC c.2.1 s.2.2.2.2 f) (n := c.2.1.length) fun i hi => by rw [hout i hi]; simp
 have hlen := buildN_len hP
 have hget : ∀ (i : Nat) (hi : i < c.2.1.length), P[i]? = some (bareC (f i c.2.1[i] (s.2.2.2.2[i]'(by omega))) c.2.1[i].type) := fun i hi => by
  rw [← buildN_get hP i hi, hout i hi]
 refine ⟨P, ?_, hlen, hget, ?_⟩
 · rw [eachS_run f hd hl hK, hP, ivJ1]; rfl
 · refine hasS_iff.2 ⟨rfl, hlen, hN, ?_, fun i hi => ?_⟩
   · rw [stK_mk, ivHas_N]; exact hk
   · have h2 : i < P.length := by omega
     show hsN c.2.1 P N k i = true
     rw [hsN_eq hi h2 (by omega)]
     have := hget i hi
     rw [List.getElem?_eq_getElem h2] at this
     rw [soi this]
     exact (hbare i hi).2
theorem smS_mk {K : Iv} {P : List Su.Ce} (h1 : P.length ≤ 1000000) (h2 : ∀ x ∈ P, x.fm.2.2.1.length ≤ 1000000) : smS (mkS K P) = true := by
 unfold smS
 rw [Bool.and_eq_true]
 exact ⟨Nat.ble_eq_true_of_le h1, List.all_eq_true.2 fun x hx => Nat.ble_eq_true_of_le (h2 x hx)⟩
theorem bare_tm (x : Su.Ce) (t : Int) : (bareC x t).fm.2.2.1.length ≤ x.fm.2.2.1.length := by
 unfold bareC
 cases decide (t = 1) with
 | true => exact Nat.zero_le _
 | false =>
  cases decide (t = 2) with
  | true => exact Nat.zero_le _
  | false =>
   cases decide (t = 3) with
   | true => exact Nat.le_refl _
   | false => exact Nat.zero_le _
theorem heavy_not {c : CoD} {l : List StD} (h : heavyS c l = false) : c.2.1.length ≤ 40 ∧ ∀ s ∈ l, s.2.2.2.2.length ≤ 40 ∧ ∀ x ∈ s.2.2.2.2, x.fm.2.2.1.length ≤ 8 := by
 unfold heavyS at h
 by_cases h1 : 40 < (c.2.1.length : Int)
 · rw [bifT (decide_eq_true h1)] at h; cases h
 · rw [bifF (decide_eq_false h1)] at h
   have h : allN l.length (heavyM l) = true := by
    cases ha : allN l.length (heavyM l) with
    | true => rfl
    | false => rw [ha] at h; cases h
   refine ⟨by omega, fun s hs => ?_⟩
   obtain ⟨i, hi, rfl⟩ := List.mem_iff_getElem.1 hs
   have := allN_iff.1 h i hi
   unfold heavyM at this
   rw [List.getElem?_eq_getElem hi] at this
   simp only [Bool.and_eq_true, Bool.not_eq_true', decide_eq_false_iff_not] at this
   have h9 : ¬ 40 < ((l[i].2.2.2.2.length : Nat) : Int) := this.1
   refine ⟨by omega, fun x hx => ?_⟩
   obtain ⟨j, hj, rfl⟩ := List.mem_iff_getElem.1 hx
   have := allN_iff.1 this.2 j hj
   unfold heavyN at this
   rw [List.getElem?_eq_getElem hj] at this
   simp only [Bool.not_eq_true', decide_eq_false_iff_not] at this
   omega
theorem smS_of {s : StD} (h1 : s.2.2.2.2.length ≤ 40) (h2 : ∀ x ∈ s.2.2.2.2, x.fm.2.2.1.length ≤ 8) : smS s = true := by
 unfold smS
 rw [Bool.and_eq_true]
 exact ⟨Nat.ble_eq_true_of_le (by omega), List.all_eq_true.2 fun x hx => Nat.ble_eq_true_of_le (by have := h2 x hx; omega)⟩
end
end Su
end
section
namespace Su
open Go Fly
set_option linter.unusedVariables false
noncomputable section
abbrev lInp_l1_S := ((List Su.Vl) × (Int × ((List Su.Vl) × (Int × ((List Su.Cc) × ((List Su.T) × ((List Su.T) × ((List Su.T) × ((List Su.T) × (Int × (Bool × (Nat × (Int × (Int × ((List Su.T) × (Bool × (Bool × (Int × (Int × ((List Su.Ce) × Unit))))))))))))))))))))
def lInp_l1_c1 :=
 fun (p5002 : lInp_l1_S) x5003 =>
 (bif ((true && (Nat.beq p5002.2.2.2.2.2.2.2.2.2.2.2.1 (List.length p5002.2.2.2.2.2.2.2.2.2.2.2.2.2.2.1))) && (Nat.ble ((List.length p5002.2.2.2.2.2.2.2.2.2.2.2.2.2.2.1) + (List.length [(T.agg [(T.s (.int .u8 (Su.Vl.type x5003))), (T.s (.bool (Su.Vl.b x5003))), (T.s (.int .i32 (Su.Vl.i x5003))), (T.s (.int .u64 (Su.Vl.f x5003)))])])) 549755813888)) then
 some (.inl (p5002.1, (p5002.2.1, (p5002.2.2.1, (p5002.2.2.2.1, (p5002.2.2.2.2.1, (p5002.2.2.2.2.2.1, (p5002.2.2.2.2.2.2.1, (p5002.2.2.2.2.2.2.2.1, (p5002.2.2.2.2.2.2.2.2.1, (p5002.2.2.2.2.2.2.2.2.2.1, (p5002.2.2.2.2.2.2.2.2.2.2.1, ((List.length (p5002.2.2.2.2.2.2.2.2.2.2.2.2.2.2.1 ++ [(T.agg [(T.s (.int .u8 (Su.Vl.type x5003))), (T.s (.bool (Su.Vl.b x5003))), (T.s (.int .i32 (Su.Vl.i x5003))), (T.s (.int .u64 (Su.Vl.f x5003)))])])), ((Go.IntKind.wrap .i64 (p5002.2.2.2.2.2.2.2.2.2.2.2.2.1 + 1)), ((Go.IntKind.wrap .i64 (p5002.2.2.2.2.2.2.2.2.2.2.2.2.2.1 + 1)), ((p5002.2.2.2.2.2.2.2.2.2.2.2.2.2.2.1 ++ [(T.agg [(T.s (.int .u8 (Su.Vl.type x5003))), (T.s (.bool (Su.Vl.b x5003))), (T.s (.int .i32 (Su.Vl.i x5003))), (T.s (.int .u64 (Su.Vl.f x5003)))])]), (p5002.2.2.2.2.2.2.2.2.2.2.2.2.2.2.2.1, (p5002.2.2.2.2.2.2.2.2.2.2.2.2.2.2.2.2.1, (p5002.2.2.2.2.2.2.2.2.2.2.2.2.2.2.2.2.2.1, (p5002.2.2.2.2.2.2.2.2.2.2.2.2.2.2.2.2.2.2.1, (p5002.2.2.2.2.2.2.2.2.2.2.2.2.2.2.2.2.2.2.2.1, ())))))))))))))))))))))
 else
  none : Option (lInp_l1_S ⊕ (Lp lInp_l1_S Bool)))
def lInp_l1 : lInp_l1_S → Option (lInp_l1_S ⊕ (Lp lInp_l1_S Bool)) := fun p2 => (bif (decide ((p2.2.2.2.2.2.2.2.2.2.2.2.2.2.1 < (((List.length p2.2.2.2.2.1) : Nat) : Int)))) then
 ((Su.idx p2.1 p2.2.2.2.2.2.2.2.2.2.2.2.2.2.1)).bind fun x3 =>
 ((Su.idx p2.2.2.2.2.1 p2.2.2.2.2.2.2.2.2.2.2.2.2.2.1)).bind fun x4 =>
 (bif (Su.Cc.input x4) then
 ((Su.idx p2.2.2.1 p2.2.2.2.2.2.2.2.2.2.2.2.2.1)).bind fun x5 =>
 (bif (!p2.2.2.2.2.2.2.2.2.2.2.2.2.2.2.2.1) then
 ((Su.idx p2.2.2.2.2.1 p2.2.2.2.2.2.2.2.2.2.2.2.2.2.1)).bind fun x6 =>
 (bif (decide (((Su.Cc.type x6) = 3))) then
 ((Su.idx p2.2.2.2.2.2.2.2.2.2.2.2.2.2.2.2.2.2.2.2.1 p2.2.2.2.2.2.2.2.2.2.2.2.2.2.1)).bind fun x7 =>
 (bif (!(decide (((Su.Ce.sl x7) = 0)))) then
 some (.inr (.ret false))
 else
  (lInp_l1_c1 p2 x5))
 else
  (lInp_l1_c1 p2 x5))
 else
  (lInp_l1_c1 p2 x5))
 else
  (bif ((true && (Nat.beq p2.2.2.2.2.2.2.2.2.2.2.2.1 (List.length p2.2.2.2.2.2.2.2.2.2.2.2.2.2.2.1))) && (Nat.ble ((List.length p2.2.2.2.2.2.2.2.2.2.2.2.2.2.2.1) + (List.length [(T.agg [(T.s (.int .u8 (Su.Vl.type x3))), (T.s (.bool (Su.Vl.b x3))), (T.s (.int .i32 (Su.Vl.i x3))), (T.s (.int .u64 (Su.Vl.f x3)))])])) 549755813888)) then
  some (.inl (p2.1, (p2.2.1, (p2.2.2.1, (p2.2.2.2.1, (p2.2.2.2.2.1, (p2.2.2.2.2.2.1, (p2.2.2.2.2.2.2.1, (p2.2.2.2.2.2.2.2.1, (p2.2.2.2.2.2.2.2.2.1, (p2.2.2.2.2.2.2.2.2.2.1, (p2.2.2.2.2.2.2.2.2.2.2.1, ((List.length (p2.2.2.2.2.2.2.2.2.2.2.2.2.2.2.1 ++ [(T.agg [(T.s (.int .u8 (Su.Vl.type x3))), (T.s (.bool (Su.Vl.b x3))), (T.s (.int .i32 (Su.Vl.i x3))), (T.s (.int .u64 (Su.Vl.f x3)))])])), (p2.2.2.2.2.2.2.2.2.2.2.2.2.1, ((Go.IntKind.wrap .i64 (p2.2.2.2.2.2.2.2.2.2.2.2.2.2.1 + 1)), ((p2.2.2.2.2.2.2.2.2.2.2.2.2.2.2.1 ++ [(T.agg [(T.s (.int .u8 (Su.Vl.type x3))), (T.s (.bool (Su.Vl.b x3))), (T.s (.int .i32 (Su.Vl.i x3))), (T.s (.int .u64 (Su.Vl.f x3)))])]), (p2.2.2.2.2.2.2.2.2.2.2.2.2.2.2.2.1, (p2.2.2.2.2.2.2.2.2.2.2.2.2.2.2.2.2.1, (p2.2.2.2.2.2.2.2.2.2.2.2.2.2.2.2.2.2.1, (p2.2.2.2.2.2.2.2.2.2.2.2.2.2.2.2.2.2.2.1, (p2.2.2.2.2.2.2.2.2.2.2.2.2.2.2.2.2.2.2.2.1, ())))))))))))))))))))))
 else
  none))
 else
  some (.inr (.exit 0 (p2.1, (p2.2.1, (p2.2.2.1, (p2.2.2.2.1, (p2.2.2.2.2.1, (p2.2.2.2.2.2.1, (p2.2.2.2.2.2.2.1, (p2.2.2.2.2.2.2.2.1, (p2.2.2.2.2.2.2.2.2.1, (p2.2.2.2.2.2.2.2.2.2.1, (p2.2.2.2.2.2.2.2.2.2.2.1, (p2.2.2.2.2.2.2.2.2.2.2.2.1, (p2.2.2.2.2.2.2.2.2.2.2.2.2.1, (p2.2.2.2.2.2.2.2.2.2.2.2.2.2.1, (p2.2.2.2.2.2.2.2.2.2.2.2.2.2.2.1, (p2.2.2.2.2.2.2.2.2.2.2.2.2.2.2.2.1, (p2.2.2.2.2.2.2.2.2.2.2.2.2.2.2.2.2.1, (p2.2.2.2.2.2.2.2.2.2.2.2.2.2.2.2.2.2.1, (p2.2.2.2.2.2.2.2.2.2.2.2.2.2.2.2.2.2.2.1, (p2.2.2.2.2.2.2.2.2.2.2.2.2.2.2.2.2.2.2.2.1, ())))))))))))))))))))))))
abbrev lInp_l2_S := ((List Su.Vl) × (Int × ((List Su.Vl) × (Int × ((List Su.Cc) × ((List Su.T) × ((List Su.T) × ((List Su.T) × ((List Su.T) × (Int × (Bool × (Nat × (Int × (Int × ((List Su.T) × (Bool × (Bool × (Int × (Int × ((List Su.Ce) × Unit))))))))))))))))))))
def lInp_l2_c1 :=
 fun (p5004 : lInp_l2_S) x5005 =>
 (bif ((true && (Nat.beq p5004.2.2.2.2.2.2.2.2.2.2.2.1 (List.length p5004.2.2.2.2.2.2.2.2.2.2.2.2.2.2.1))) && (Nat.ble ((List.length p5004.2.2.2.2.2.2.2.2.2.2.2.2.2.2.1) + (List.length [(T.agg [(T.s (.int .u8 (Su.Vl.type x5005))), (T.s (.bool (Su.Vl.b x5005))), (T.s (.int .i32 (Su.Vl.i x5005))), (T.s (.int .u64 (Su.Vl.f x5005)))])])) 549755813888)) then
 some (.inl (p5004.1, (p5004.2.1, (p5004.2.2.1, (p5004.2.2.2.1, (p5004.2.2.2.2.1, (p5004.2.2.2.2.2.1, (p5004.2.2.2.2.2.2.1, (p5004.2.2.2.2.2.2.2.1, (p5004.2.2.2.2.2.2.2.2.1, (p5004.2.2.2.2.2.2.2.2.2.1, (p5004.2.2.2.2.2.2.2.2.2.2.1, ((List.length (p5004.2.2.2.2.2.2.2.2.2.2.2.2.2.2.1 ++ [(T.agg [(T.s (.int .u8 (Su.Vl.type x5005))), (T.s (.bool (Su.Vl.b x5005))), (T.s (.int .i32 (Su.Vl.i x5005))), (T.s (.int .u64 (Su.Vl.f x5005)))])])), ((Go.IntKind.wrap .i64 (p5004.2.2.2.2.2.2.2.2.2.2.2.2.1 + 1)), ((Go.IntKind.wrap .i64 (p5004.2.2.2.2.2.2.2.2.2.2.2.2.2.1 + 1)), ((p5004.2.2.2.2.2.2.2.2.2.2.2.2.2.2.1 ++ [(T.agg [(T.s (.int .u8 (Su.Vl.type x5005))), (T.s (.bool (Su.Vl.b x5005))), (T.s (.int .i32 (Su.Vl.i x5005))), (T.s (.int .u64 (Su.Vl.f x5005)))])]), (p5004.2.2.2.2.2.2.2.2.2.2.2.2.2.2.2.1, (p5004.2.2.2.2.2.2.2.2.2.2.2.2.2.2.2.2.1, (p5004.2.2.2.2.2.2.2.2.2.2.2.2.2.2.2.2.2.1, (p5004.2.2.2.2.2.2.2.2.2.2.2.2.2.2.2.2.2.2.1, (p5004.2.2.2.2.2.2.2.2.2.2.2.2.2.2.2.2.2.2.2.1, ())))))))))))))))))))))
 else
  none : Option (lInp_l2_S ⊕ (Lp lInp_l2_S Bool)))
def lInp_l2 : lInp_l2_S → Option (lInp_l2_S ⊕ (Lp lInp_l2_S Bool)) := fun p20 => (bif (decide ((p20.2.2.2.2.2.2.2.2.2.2.2.2.2.1 < (((List.length p20.2.2.2.2.1) : Nat) : Int)))) then
 ((Su.idx p20.1 p20.2.2.2.2.2.2.2.2.2.2.2.2.2.1)).bind fun x21 =>
 ((Su.idx p20.2.2.2.2.1 p20.2.2.2.2.2.2.2.2.2.2.2.2.2.1)).bind fun x22 =>
 (bif (Su.Cc.input x22) then
 ((Su.idx p20.2.2.1 p20.2.2.2.2.2.2.2.2.2.2.2.2.1)).bind fun x23 =>
 (bif (!p20.2.2.2.2.2.2.2.2.2.2.2.2.2.2.2.1) then
 ((Su.idx p20.2.2.2.2.1 p20.2.2.2.2.2.2.2.2.2.2.2.2.2.1)).bind fun x24 =>
 (bif (decide (((Su.Cc.type x24) = 3))) then
 ((Su.idx p20.2.2.2.2.2.2.2.2.2.2.2.2.2.2.2.2.2.2.2.1 p20.2.2.2.2.2.2.2.2.2.2.2.2.2.1)).bind fun x25 =>
 (bif (!(decide (((Su.Ce.sl x25) = 0)))) then
 some (.inr (.ret false))
 else
  (lInp_l2_c1 p20 x23))
 else
  (lInp_l2_c1 p20 x23))
 else
  (lInp_l2_c1 p20 x23))
 else
  (bif ((true && (Nat.beq p20.2.2.2.2.2.2.2.2.2.2.2.1 (List.length p20.2.2.2.2.2.2.2.2.2.2.2.2.2.2.1))) && (Nat.ble ((List.length p20.2.2.2.2.2.2.2.2.2.2.2.2.2.2.1) + (List.length [(T.agg [(T.s (.int .u8 (Su.Vl.type x21))), (T.s (.bool (Su.Vl.b x21))), (T.s (.int .i32 (Su.Vl.i x21))), (T.s (.int .u64 (Su.Vl.f x21)))])])) 549755813888)) then
  some (.inl (p20.1, (p20.2.1, (p20.2.2.1, (p20.2.2.2.1, (p20.2.2.2.2.1, (p20.2.2.2.2.2.1, (p20.2.2.2.2.2.2.1, (p20.2.2.2.2.2.2.2.1, (p20.2.2.2.2.2.2.2.2.1, (p20.2.2.2.2.2.2.2.2.2.1, (p20.2.2.2.2.2.2.2.2.2.2.1, ((List.length (p20.2.2.2.2.2.2.2.2.2.2.2.2.2.2.1 ++ [(T.agg [(T.s (.int .u8 (Su.Vl.type x21))), (T.s (.bool (Su.Vl.b x21))), (T.s (.int .i32 (Su.Vl.i x21))), (T.s (.int .u64 (Su.Vl.f x21)))])])), (p20.2.2.2.2.2.2.2.2.2.2.2.2.1, ((Go.IntKind.wrap .i64 (p20.2.2.2.2.2.2.2.2.2.2.2.2.2.1 + 1)), ((p20.2.2.2.2.2.2.2.2.2.2.2.2.2.2.1 ++ [(T.agg [(T.s (.int .u8 (Su.Vl.type x21))), (T.s (.bool (Su.Vl.b x21))), (T.s (.int .i32 (Su.Vl.i x21))), (T.s (.int .u64 (Su.Vl.f x21)))])]), (p20.2.2.2.2.2.2.2.2.2.2.2.2.2.2.2.1, (p20.2.2.2.2.2.2.2.2.2.2.2.2.2.2.2.2.1, (p20.2.2.2.2.2.2.2.2.2.2.2.2.2.2.2.2.2.1, (p20.2.2.2.2.2.2.2.2.2.2.2.2.2.2.2.2.2.2.1, (p20.2.2.2.2.2.2.2.2.2.2.2.2.2.2.2.2.2.2.2.1, ())))))))))))))))))))))
 else
  none))
 else
  some (.inr (.exit 0 (p20.1, (p20.2.1, (p20.2.2.1, (p20.2.2.2.1, (p20.2.2.2.2.1, (p20.2.2.2.2.2.1, (p20.2.2.2.2.2.2.1, (p20.2.2.2.2.2.2.2.1, (p20.2.2.2.2.2.2.2.2.1, (p20.2.2.2.2.2.2.2.2.2.1, (p20.2.2.2.2.2.2.2.2.2.2.1, (p20.2.2.2.2.2.2.2.2.2.2.2.1, (p20.2.2.2.2.2.2.2.2.2.2.2.2.1, (p20.2.2.2.2.2.2.2.2.2.2.2.2.2.1, (p20.2.2.2.2.2.2.2.2.2.2.2.2.2.2.1, (p20.2.2.2.2.2.2.2.2.2.2.2.2.2.2.2.1, (p20.2.2.2.2.2.2.2.2.2.2.2.2.2.2.2.2.1, (p20.2.2.2.2.2.2.2.2.2.2.2.2.2.2.2.2.2.1, (p20.2.2.2.2.2.2.2.2.2.2.2.2.2.2.2.2.2.2.1, (p20.2.2.2.2.2.2.2.2.2.2.2.2.2.2.2.2.2.2.2.1, ())))))))))))))))))))))))
def lInp  (fu : Nat) (c : (Int × ((List Su.Cc) × ((List Su.T) × ((List Su.T) × ((List Su.T) × ((List Su.T) × Int))))))) (s : (Bool × (Bool × (Int × (Int × (List Su.Ce)))))) (row : (List Su.Vl)) (k : Int) (inputs : (List Su.Vl)) : Option Bool :=
 (bif (Su.heavyS c [s]) then
 some true
 else
  (bif (decide ((40 < (((List.length row) : Nat) : Int)))) then
  some true
 else
  (bif (decide ((40 < (((List.length inputs) : Nat) : Int)))) then
  some true
 else
  ((Su.sHas_s (c, (s, (row, k))))).bind fun x0 =>
  (bif (!x0) then
  some true
 else
  (bif (decide ((k < (-34359738368)))) then
  some true
 else
  (bif (decide ((34359738368 < k))) then
  some true
 else
  (bif (!(Su.mayS c inputs)) then
  some true
 else
  ((Su.sInp_s (c, s))).bind fun x1 =>
  (bif (!x1.1) then
  (bif (!(decide (((((List.length x1.2.2.2.2) : Nat) : Int) = (((List.length c.2.1) : Nat) : Int))))) then
  some false
 else
  (itP fu (lInp_l1) (row, (k, (inputs, (c.1, (c.2.1, (c.2.2.1, (c.2.2.2.1, (c.2.2.2.2.1, (c.2.2.2.2.2.1, (c.2.2.2.2.2.2, (true, (0, ((0 : Int), ((0 : Int), ([], (x1.1, (x1.2.1, (x1.2.2.1, (x1.2.2.2.1, (x1.2.2.2.2, ()))))))))))))))))))))).bind fun x8 =>
  (match x8 with
 | .exit i9 p10 => (bif (Nat.beq i9 0) then
  (bif p10.2.2.2.2.2.2.2.2.2.2.1 then
  ((Su.sub p10.2.2.2.2.2.2.2.2.2.2.2.2.2.2.1 0 p10.2.2.2.2.2.2.2.2.2.2.2.1)).bind fun x11 =>
  ((Su.sub p10.2.2.2.2.2.2.2.2.2.2.2.2.2.2.1 0 p10.2.2.2.2.2.2.2.2.2.2.2.1)).bind fun x12 =>
  ((Su.sub p10.2.2.2.2.2.2.2.2.2.2.2.2.2.2.1 0 p10.2.2.2.2.2.2.2.2.2.2.2.1)).bind fun x13 =>
  ((((((Su.unR (Su.rVl) x11)).bind fun x14 =>
  some (x14, p10.2.1)).bind fun x15 =>
  some ((p10.2.2.2.2.2.2.2.2.2.2.2.2.2.2.2.1, (p10.2.2.2.2.2.2.2.2.2.2.2.2.2.2.2.2.1, (p10.2.2.2.2.2.2.2.2.2.2.2.2.2.2.2.2.2.1, (p10.2.2.2.2.2.2.2.2.2.2.2.2.2.2.2.2.2.2.1, p10.2.2.2.2.2.2.2.2.2.2.2.2.2.2.2.2.2.2.2.1)))), x15)).bind fun x16 =>
  some ((p10.2.2.2.1, (p10.2.2.2.2.1, (p10.2.2.2.2.2.1, (p10.2.2.2.2.2.2.1, (p10.2.2.2.2.2.2.2.1, (p10.2.2.2.2.2.2.2.2.1, p10.2.2.2.2.2.2.2.2.2.1)))))), x16)).bind fun x17 =>
  (bif (Su.smS x17.2.1) then
  some (Su.hasS x17.1 x17.2.1 x17.2.2.1 x17.2.2.2)
 else
  none)).bind fun x18 =>
  some x18
 else
  some false)
 else
  none)
 | .ret o19 => some o19))
 else
  (itP fu (lInp_l2) (row, (k, (inputs, (c.1, (c.2.1, (c.2.2.1, (c.2.2.2.1, (c.2.2.2.2.1, (c.2.2.2.2.2.1, (c.2.2.2.2.2.2, (true, (0, ((0 : Int), ((0 : Int), ([], (x1.1, (x1.2.1, (x1.2.2.1, (x1.2.2.2.1, (x1.2.2.2.2, ()))))))))))))))))))))).bind fun x26 =>
  (match x26 with
 | .exit i27 p28 => (bif (Nat.beq i27 0) then
  (bif p28.2.2.2.2.2.2.2.2.2.2.1 then
  ((Su.sub p28.2.2.2.2.2.2.2.2.2.2.2.2.2.2.1 0 p28.2.2.2.2.2.2.2.2.2.2.2.1)).bind fun x29 =>
  ((Su.sub p28.2.2.2.2.2.2.2.2.2.2.2.2.2.2.1 0 p28.2.2.2.2.2.2.2.2.2.2.2.1)).bind fun x30 =>
  ((Su.sub p28.2.2.2.2.2.2.2.2.2.2.2.2.2.2.1 0 p28.2.2.2.2.2.2.2.2.2.2.2.1)).bind fun x31 =>
  ((((((Su.unR (Su.rVl) x29)).bind fun x32 =>
  some (x32, p28.2.1)).bind fun x33 =>
  some ((p28.2.2.2.2.2.2.2.2.2.2.2.2.2.2.2.1, (p28.2.2.2.2.2.2.2.2.2.2.2.2.2.2.2.2.1, (p28.2.2.2.2.2.2.2.2.2.2.2.2.2.2.2.2.2.1, (p28.2.2.2.2.2.2.2.2.2.2.2.2.2.2.2.2.2.2.1, p28.2.2.2.2.2.2.2.2.2.2.2.2.2.2.2.2.2.2.2.1)))), x33)).bind fun x34 =>
  some ((p28.2.2.2.1, (p28.2.2.2.2.1, (p28.2.2.2.2.2.1, (p28.2.2.2.2.2.2.1, (p28.2.2.2.2.2.2.2.1, (p28.2.2.2.2.2.2.2.2.1, p28.2.2.2.2.2.2.2.2.2.1)))))), x34)).bind fun x35 =>
  (bif (Su.smS x35.2.1) then
  some (Su.hasS x35.1 x35.2.1 x35.2.2.1 x35.2.2.2)
 else
  none)).bind fun x36 =>
  some x36
 else
  some false)
 else
  none)
 | .ret o37 => some o37)))))))))
def mixR : List Su.Cc → List Su.Vl → List Su.Vl → List Su.Vl
 | d :: C, v :: R, l => bif d.input then (match l with
  | w :: l' => w :: mixR C R l'
  | [] => []) else v :: mixR C R l
 | _, _, _ => []
theorem may_no {d : Su.Cc} {C : List Su.Cc} {l : List Su.Vl} (h : d.input = false) : mayE (d :: C) l = mayE C l := by
 rw [mayE.eq_def]; simp only [h, Bool.not_false, cond_true]
theorem may_yes {d : Su.Cc} {C : List Su.Cc} {l : List Su.Vl} {n : Nat} (h : d.input = true) (hm : mayE (d :: C) l = some n) : ∃ w l', l = w :: l' ∧ okIn d w = true ∧ mayE C l' = some n := by
 rw [mayE.eq_def] at hm
 simp only [h, Bool.not_true, cond_false] at hm
 cases l with
 | nil => cases hm
 | cons w l' =>
  obtain ⟨h1, h2⟩ := bif_some hm
  exact ⟨w, l', rfl, h1, h2⟩
theorem mix_get : ∀ {C : List Su.Cc} {R l : List Su.Vl}, mayE C l = some 0 → R.length = C.length → (mixR C R l).length = C.length ∧ ∀ (j : Nat) (hj : j < C.length), ∃ w, (mixR C R l)[j]? = some w ∧ ((C[j].input = false ∧ R[j]? = some w) ∨ (C[j].input = true ∧ okIn C[j] w = true ∧ w ∈ l))
 | [], [], l, _, _ => ⟨rfl, fun j hj => absurd hj (by simp)⟩
 | [], _ :: _, _, _, h => by cases h
 | _ :: _, [], _, _, h => by cases h
 | d :: C, v :: R, l, hm, hl => by
  have hl' : R.length = C.length := by simpa using hl
  cases hd : d.input with
  | false =>
   rw [may_no hd] at hm
   obtain ⟨h1, h2⟩ := mix_get (C := C) (R := R) hm hl'
   have e : mixR (d :: C) (v :: R) l = v :: mixR C R l := by rw [mixR.eq_def]; simp only [hd, cond_false]
   rw [e]
   refine ⟨by rw [List.length_cons, List.length_cons, h1], fun j hj => ?_⟩
   cases j with
   | zero => exact ⟨v, rfl, .inl ⟨hd, rfl⟩⟩
   | succ j =>
    obtain ⟨w, a, b⟩ := h2 j (by simpa using hj)
    exact ⟨w, a, b⟩
  | true =>
   obtain ⟨w, l', rfl, ho, hm'⟩ := may_yes hd hm
   obtain ⟨h1, h2⟩ := mix_get (C := C) (R := R) hm' hl'
   have e : mixR (d :: C) (v :: R) (w :: l') = w :: mixR C R l' := by rw [mixR.eq_def]; simp only [hd, cond_true]
   rw [e]
   refine ⟨by rw [List.length_cons, List.length_cons, h1], fun j hj => ?_⟩
   cases j with
   | zero => exact ⟨w, rfl, .inr ⟨hd, ho, by simp⟩⟩
   | succ j =>
    obtain ⟨w', a, b⟩ := h2 j (by simpa using hj)
    refine ⟨w', a, b.imp id fun ⟨b1, b2, b3⟩ => ⟨b1, b2, List.mem_cons_of_mem _ b3⟩⟩
def viewV (x : Su.Vl) : T := .agg [.s (.int .u8 x.type), .s (.bool x.b), .s (.int .i32 x.i), .s (.int .u64 x.f)]
theorem unR_vV (P : List Su.Vl) : unR rVl (P.map viewV) = some P := unR_map rVl P
theorem app_vV (P : List Su.Vl) (x : Su.Vl) : P.map viewV ++ [T.agg [.s (.int .u8 x.type), .s (.bool x.b), .s (.int .i32 x.i), .s (.int .u64 x.f)]] = (P ++ [x]).map viewV := by rw [List.map_append]; rfl
abbrev LiS := List Su.Vl × (Int × (List Su.Vl × (Int × (List Su.Cc × (List Su.T × (List Su.T × (List Su.T × (List Su.T × (Int × (Bool × (Nat × (Int × (Int × (List Su.T × (Bool × (Bool × (Int × (Int × (List Su.Ce × Unit)))))))))))))))))))
def liMk (c : CoD) (t : StD) (row : List Su.Vl) (k : Int) (inputs : List Su.Vl) (n i : Int) (Q : List Su.Vl) : LiS :=
 (row, (k, (inputs, (c.1, (c.2.1, (c.2.2.1, (c.2.2.2.1, (c.2.2.2.2.1, (c.2.2.2.2.2.1, (c.2.2.2.2.2.2, (true, (Q.length, (n, (i, (Q.map viewV, (t.1, (t.2.1, (t.2.2.1, (t.2.2.2.1, (t.2.2.2.2, ()))))))))))))))))))))
set_option maxHeartbeats 1000000 in
theorem li_loop (c : CoD) (t : StD) (row : List Su.Vl) (k : Int) (inputs : List Su.Vl) (hc : c.2.1.length ≤ 40) (hr : row.length = c.2.1.length) (ht : t.2.2.2.2.length = c.2.1.length) (hin : inputs.length ≤ 40) (hd0 : t.1 = false)
 (hs : ∀ (j : Nat) (hj : j < c.2.1.length), c.2.1[j].input = true → c.2.1[j].type = 3 → (t.2.2.2.2[j]'(by omega)).sl = 0) :
 ∀ (C A : List Su.Cc) (R RA l B Q : List Su.Vl), A ++ C = c.2.1 → RA ++ R = row → RA.length = A.length → B ++ l = inputs → mayE C l = some 0 → Q.length = A.length →
  Runs (C.length + 1) lInp_l1 (liMk c t row k inputs B.length A.length Q) (.exit 0 (liMk c t row k inputs inputs.length c.2.1.length (Q ++ mixR C R l)))
 | [], A, R, RA, l, B, Q, hA, hR, hRA, hB, hm, hQ => by
  rw [List.append_nil] at hA; subst hA
  have hl0 : l = [] := by
   have : l.length = 0 := soi hm
   exact List.length_eq_zero_iff.1 this
  subst hl0
  rw [List.append_nil] at hB; subst hB
  refine Runs.stop ?_
  have e : mixR [] R [] = [] := by unfold mixR; rfl
  rw [e, List.append_nil]
  unfold liMk
  simp only [lInp_l1, lInp_l1_c1, ltN, decide_eq_false (Nat.lt_irrefl _), cond_false]
 | d :: C, A, R, RA, l, B, Q, hA, hR, hRA, hB, hm, hQ => by
  have hmx : c.2.1.length ≤ maxLen := by rw [maxLen_eq]; omega
  have hmy : inputs.length ≤ maxLen := by rw [maxLen_eq]; omega
  have hi : A.length < c.2.1.length := by rw [← hA]; simp
  have hgd : idx c.2.1 (A.length : Int) = some d := by
   rw [idx_nat, ← hA, List.getElem?_append_right (by omega), Nat.sub_self]; rfl
  have hcd : c.2.1[A.length] = d := by
   have := List.getElem?_eq_getElem hi
   rw [idx_nat] at hgd
   rw [this] at hgd; exact soi hgd
  have hRl : RA.length + R.length = c.2.1.length := by rw [← hr, ← hR, List.length_append]
  obtain ⟨v, R', rfl⟩ : ∃ v R', R = v :: R' := by
   cases R with
   | nil => simp at hRl; omega
   | cons v R' => exact ⟨v, R', rfl⟩
  have hgv : idx row (A.length : Int) = some v := by
   rw [idx_nat, ← hR, List.getElem?_append_right (by omega), hRA, Nat.sub_self]; rfl
  have hb : Nat.ble (Q.length + 1) 549755813888 = true := Nat.ble_eq_true_of_le (by omega)
  have ei : ((A ++ [d]).length : Int) = ((A.length + 1 : Nat) : Int) := by simp
  cases hd : d.input with
  | false =>
   have e : mixR (d :: C) (v :: R') l = v :: mixR C R' l := by rw [mixR.eq_def]; simp only [hd, cond_false]
   have ih := li_loop c t row k inputs hc hr ht hin hd0 hs C (A ++ [d]) R' (RA ++ [v]) l B (Q ++ [v]) (by rw [← hA]; simp) (by rw [← hR]; simp) (by simp [hRA]) hB (by rw [← may_no hd]; exact hm) (by simp [hQ])
   rw [e]
   rw [List.append_assoc] at ih
   refine Runs.next ?_ ih
   unfold liMk
   simp only [lInp_l1, lInp_l1_c1, ltN, decide_eq_true hi, cond_true, cond_false, hgd, hgv, Option.bind_some, hd, w1 hi hmx, ei, List.length_map, List.length_cons, List.length_nil, Nat.zero_add, nbeq, hb, Bool.and_self, app_vV]
  | true =>
   obtain ⟨w, l', rfl, ho, hm'⟩ := may_yes hd hm
   have e : mixR (d :: C) (v :: R') (w :: l') = w :: mixR C R' l' := by rw [mixR.eq_def]; simp only [hd, cond_true]
   have hk : B.length < inputs.length := by rw [← hB]; simp
   have hgw : idx inputs (B.length : Int) = some w := by
    rw [idx_nat, ← hB, List.getElem?_append_right (by omega), Nat.sub_self]; rfl
   have ek : ((B ++ [w]).length : Int) = ((B.length + 1 : Nat) : Int) := by simp
   have ih := li_loop c t row k inputs hc hr ht hin hd0 hs C (A ++ [d]) R' (RA ++ [v]) l' (B ++ [w]) (Q ++ [w]) (by rw [← hA]; simp) (by rw [← hR]; simp) (by simp [hRA]) (by rw [← hB]; simp) hm' (by simp [hQ])
   rw [e]
   rw [List.append_assoc] at ih
   refine Runs.next ?_ ih
   have hit : A.length < t.2.2.2.2.length := by omega
   have hsl := hs A.length hi (by rw [hcd]; exact hd)
   rw [hcd] at hsl
   unfold liMk
   simp only [lInp_l1, lInp_l1_c1, ltN, decide_eq_true hi, cond_true, cond_false, hgd, hgv, hgw, Option.bind_some, hd, hd0, w1 hi hmx, w1 hk hmy, ei, ek, List.length_map, List.length_cons, List.length_nil, Nat.zero_add, nbeq, hb, Bool.and_self, app_vV, ixl hit, Bool.not_false]
   by_cases t3 : d.type = 3
   · rw [decide_eq_true t3, hsl t3]; rfl
   · rw [decide_eq_false t3]; rfl
def lInp_s (_ : CoD × (StD × (List Su.Vl × (Int × List Su.Vl)))) : Option Bool := some true
theorem cc_good {d : Su.Cc} (h : rCc.d.good d) : (-2147483648 ≤ d.fr ∧ d.fr < 2147483648) ∧ (-2147483648 ≤ d.to ∧ d.to < 2147483648) ∧ Fw d.lo ∧ Fw d.hi := by
 obtain ⟨_, _, _, _, _, h1, h2, h3, h4⟩ := h
 exact ⟨inR_i32.1 h3, inR_i32.1 h4, inR_u64.1 h1, inR_u64.1 h2⟩
theorem ce_good {x : Su.Ce} (h : dCe.good x) : SpW x.s := by
 obtain ⟨_, _, _, _, _, _, _, _, _, _, _, _, h1, h2, _⟩ := h
 exact ⟨inR_u64.1 h1, inR_u64.1 h2⟩
theorem vl_good {v : Su.Vl} (h : dVlP.good (frVl v)) : Fw v.f := inR_u64.1 h.2.2.2
theorem lInp_ok (p : CoD × (StD × (List Su.Vl × (Int × List Su.Vl)))) (y : Bool) (hg : (dc cCo (dc cSt (dc (cL rVl) (dc (cI .i64) (d1 (cL rVl)))))).good p) (h : lInp_s p = some y) : ∃ n, lInp n p.1 p.2.1 p.2.2.1 p.2.2.2.1 p.2.2.2.2 = some y := by
 obtain ⟨c, s, row, k, inputs⟩ := p
 have := soi h; subst this
 show ∃ n, lInp n c s row k inputs = some true
 have gc : ∀ d ∈ c.2.1, rCc.d.good d := hg.1.2.1.1
 have gs : ∀ x ∈ s.2.2.2.2, dCe.good x := hg.2.1.2.2.2.2.1
 have gr : ∀ v ∈ row, dVlP.good (frVl v) := hg.2.2.1.1
 have gi : ∀ v ∈ inputs, dVlP.good (frVl v) := hg.2.2.2.2.1
 refine ⟨c.2.1.length + 1, ?_⟩
 unfold lInp
 rcases Bool.eq_false_or_eq_true (heavyS c [s]) with hh | hh
 · exact bifT hh
 refine (bifF hh).trans ?_
 obtain ⟨hc, hs0⟩ := heavy_not hh
 obtain ⟨hs1, hs2⟩ := hs0 s (by simp)
 have hm := smS_of hs1 hs2
 by_cases q1 : 40 < (row.length : Int)
 · exact bifT (decide_eq_true q1)
 refine (bifF (decide_eq_false q1)).trans ?_
 by_cases q2 : 40 < (inputs.length : Int)
 · exact bifT (decide_eq_true q2)
 refine (bifF (decide_eq_false q2)).trans ?_
 refine obB (x := hasS c s row k) (show sHas_s (c, (s, (row, k))) = _ from bifT hm) ?_
 rcases (Bool.eq_false_or_eq_true (hasS c s row k)).symm with hhas | hhas
 · rw [hhas]; rfl
 rw [hhas]
 refine (bifF rfl).trans ?_
 by_cases k1 : k < -34359738368
 · exact bifT (decide_eq_true k1)
 refine (bifF (decide_eq_false k1)).trans ?_
 by_cases k2 : 34359738368 < k
 · exact bifT (decide_eq_true k2)
 refine (bifF (decide_eq_false k2)).trans ?_
 rcases (Bool.eq_false_or_eq_true (mayS c inputs)).symm with hmay | hmay
 · rw [hmay]; rfl
 rw [hmay]
 refine (bifF rfl).trans ?_
 have hE : mayE c.2.1 inputs = some 0 := by
  unfold mayS at hmay
  cases he : mayE c.2.1 inputs with
  | none => rw [he] at hmay; cases hmay
  | some n => rw [he] at hmay; rw [of_decide_eq_true hmay]
 obtain ⟨hd, hl, hr, hk, hN⟩ := hasS_iff.1 hhas
 obtain ⟨ml, mg⟩ := mix_get hE hr
 have cell : ∀ (i : Nat) (hi : i < c.2.1.length), hasC c.2.1[i].type (inpF s i c.2.1[i] (s.2.2.2.2[i]'(by omega))) ((mixR c.2.1 row inputs)[i]'(by omega)) k = true := by
  intro i hi
  obtain ⟨w, hw, hor⟩ := mg i hi
  rw [List.getElem?_eq_getElem (by omega)] at hw
  rw [soi hw]
  rcases hor with ⟨hin, hrow⟩ | ⟨hin, hok, hmem⟩
  · have := hN i hi
    rw [hsN_eq hi (by omega) (by omega)] at this
    rw [List.getElem?_eq_getElem (show i < row.length by omega)] at hrow
    rw [soi hrow] at this
    have e : inpF s i c.2.1[i] (s.2.2.2.2[i]'(by omega)) = s.2.2.2.2[i]'(by omega) := by unfold inpF; rw [hin]; rfl
    rw [e]; exact this
  · obtain ⟨g1, g2, g3, g4⟩ := cc_good (gc _ (List.getElem_mem hi))
    exact in_has hin hok hk (by omega) (by omega) g1 g2 g3 g4 (vl_good (gi w hmem))
 have wN : ∀ v ∈ mixR c.2.1 row inputs, Fw v.f := by
  intro v hv
  obtain ⟨i, hi, rfl⟩ := List.mem_iff_getElem.1 hv
  obtain ⟨w, hw, hor⟩ := mg i (by omega)
  rw [List.getElem?_eq_getElem hi] at hw
  rw [soi hw]
  rcases hor with ⟨_, hrow⟩ | ⟨_, _, hmem⟩
  · exact vl_good (gr w (List.mem_of_getElem? hrow))
  · exact vl_good (gi w hmem)
 have wX : ∀ (i : Nat) (hi : i < c.2.1.length), SpW (inpF s i c.2.1[i] (s.2.2.2.2[i]'(by omega))).s := by
  intro i hi
  obtain ⟨g1, g2, g3, g4⟩ := cc_good (gc _ (List.getElem_mem hi))
  cases hin : c.2.1[i].input with
  | false =>
   have e : inpF s i c.2.1[i] (s.2.2.2.2[i]'(by omega)) = s.2.2.2.2[i]'(by omega) := by unfold inpF; rw [hin]; rfl
   rw [e]; exact ce_good (gs _ (List.getElem_mem _))
  | true =>
   have e : (inpF s i c.2.1[i] (s.2.2.2.2[i]'(by omega))).s = spMk c.2.1[i].lo c.2.1[i].hi := by unfold inpF; rw [hin]; rfl
   rw [e]; exact (normS_ok (s := (false, (c.2.1[i].lo, c.2.1[i].hi))) ⟨g3, g4⟩).w
 obtain ⟨P, hP, hPl, hPg, hPh⟩ := each_has (f := inpF s) hd hl (by rw [ml]) hk wX wN cell
 refine obB (x := inpS c s) (show sInp_s (c, s) = _ from bifT hm) ?_
 have hS : inpS c s = mkS (ivN (stK s)) P := hP
 rw [hS]
 refine (bifT rfl).trans ?_
 have hl2 : ((mkS (ivN (stK s)) P).2.2.2.2).length = c.2.1.length := hPl
 refine (bifF (by rw [lnE, hl2, decide_eq_true rfl]; rfl)).trans ?_
 have slip : ∀ (j : Nat) (hj : j < c.2.1.length), c.2.1[j].input = true → c.2.1[j].type = 3 → ((mkS (ivN (stK s)) P).2.2.2.2[j]'(by omega)).sl = 0 := by
  intro j hj h1 h3
  have := hPg j hj
  have e : (mkS (ivN (stK s)) P).2.2.2.2[j]? = P[j]? := rfl
  rw [← e, List.getElem?_eq_getElem (by omega)] at this
  rw [soi this, bareC_3 h3]
  show (inpF s j c.2.1[j] _).sl = 0
  unfold inpF; rw [h1]; rfl
 have hrun := li_loop c (mkS (ivN (stK s)) P) row k inputs hc hr hl2 (by omega) rfl slip c.2.1 [] row [] inputs [] [] rfl rfl rfl rfl hE rfl
 refine obB (hrun _ (Nat.le_refl _)) ?_
 have hsm : smS (mkS (ivN (stK s)) P) = true := by
  refine smS_mk (by omega) fun x hx => ?_
  obtain ⟨j, hj, rfl⟩ := List.mem_iff_getElem.1 hx
  have := hPg j (by omega)
  rw [List.getElem?_eq_getElem hj] at this
  rw [soi this]
  refine Nat.le_trans (bare_tm _ _) ?_
  unfold inpF
  cases c.2.1[j].input with
  | false => have := hs2 _ (List.getElem_mem (show j < s.2.2.2.2.length by omega)); exact Nat.le_trans this (by omega)
  | true => exact Nat.zero_le _
 have hsub : sub ((mixR c.2.1 row inputs).map viewV) 0 (mixR c.2.1 row inputs).length = some ((mixR c.2.1 row inputs).map viewV) := by
  unfold sub
  rw [show Nat.ble (0 + (mixR c.2.1 row inputs).length) ((mixR c.2.1 row inputs).map viewV).length = true from Nat.ble_eq_true_of_le (by simp), cond_true, List.drop_zero]
  congr 1
  exact List.take_of_length_le (by simp)
 refine (bifT rfl).trans ((bifT rfl).trans ?_)
 refine obB hsub (obB hsub (obB hsub ?_))
 refine obB (x := true) (obB (obB (obB (obB (unR_vV _) rfl) rfl) rfl) ?_) rfl
 refine (bifT hsm).trans ?_
 exact congrArg some hPh
end
end Su
end
