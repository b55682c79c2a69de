/-
  A small logic of walks: judgements, operations, regions, loops, calls. No condition.
-/
import Derived.Test.YtdmomplfmfhoiaaGreatDoorFlyP
namespace Fly
open Go

mutual
inductive Ex where
  | mk (op at_ : Int) (b : Bool) (i f : Int) (nm : ByteArray) (as : Exs)
inductive Exs where
  | nil
  | cons (e : Ex) (r : Exs)
end
mutual
inductive St_ where
  | mk (kd at_ : Int) (nm : ByteArray) (ix : Exs) (ex : Ex) (lo hi : Int) (tn el : Sts)
inductive Sts where
  | nil
  | cons (s : St_) (r : Sts)
end
structure Dc where
  at_ : Int
  inp : Bool
  nm : ByteArray
  ty : Int
  len : Int
  rng : Bool
  lo : Ex
  hi : Ex
structure Pg where
  ticks : Int
  ds : List Dc
  ini : Sts
  step : Sts

mutual
def Ex.Is (V : View) : Ex → List Value → Prop
  | .mk op p b i f nm as, cs => ∃ sl css, cs = [.int .u8 op, .int .i64 p, .bool b, .int .i32 i, .int .u64 f, .string nm, sl] ∧ Sl 7 V sl css ∧ Exs.Is V as css
def Exs.Is (V : View) : Exs → List Value → Prop
  | .nil, cs => cs = []
  | .cons e r, cs => ∃ c cr, cs = c ++ cr ∧ Ex.Is V e c ∧ Exs.Is V r cr
end
mutual
def St_.Is (V : View) : St_ → List Value → Prop
  | .mk kd p nm ix ex lo hi tn el, cs => ∃ sx cx ce st ct se cE, cs = [.int .u8 kd, .int .i64 p, .string nm, sx] ++ ce ++ [.int .i32 lo, .int .i32 hi, st, se] ∧ Sl 7 V sx cx ∧ Exs.Is V ix cx ∧ Ex.Is V ex ce ∧ Sl 15 V st ct ∧ Sts.Is V tn ct ∧ Sl 15 V se cE ∧ Sts.Is V el cE
def Sts.Is (V : View) : Sts → List Value → Prop
  | .nil, cs => cs = []
  | .cons e r, cs => ∃ c cr, cs = c ++ cr ∧ St_.Is V e c ∧ Sts.Is V r cr
end
def Dc.Is (V : View) (d : Dc) (cs : List Value) : Prop :=
  ∃ cl ch, cs = [.int .i64 d.at_, .bool d.inp, .string d.nm, .int .u8 d.ty, .int .i64 d.len, .bool d.rng] ++ cl ++ ch ∧ Ex.Is V d.lo cl ∧ Ex.Is V d.hi ch
def DcsIs (V : View) : List Dc → List Value → Prop
  | [], cs => cs = []
  | d :: r, cs => ∃ c cr, cs = c ++ cr ∧ Dc.Is V d c ∧ DcsIs V r cr
def Pg.Is (V : View) (p : Pg) (cs : List Value) : Prop :=
  ∃ sd cd si ci ss cS, cs = [.int .i64 p.ticks, sd, si, ss] ∧ Sl 20 V sd cd ∧ DcsIs V p.ds cd ∧ Sl 15 V si ci ∧ Sts.Is V p.ini ci ∧ Sl 15 V ss cS ∧ Sts.Is V p.step cS

mutual
theorem Ex.Is.mono {V V' : View} (hs : Sub V V') : ∀ (x : Ex) {cs : List Value}, Ex.Is V x cs → Ex.Is V' x cs
  | .mk _ _ _ _ _ _ as, cs, h => by
    simp only [Ex.Is] at h ⊢
    obtain ⟨sl, css, h1, h2, h3⟩ := h
    exact ⟨sl, css, h1, h2.mono hs, Exs.Is.mono hs as h3⟩
  termination_by structural x => x
theorem Exs.Is.mono {V V' : View} (hs : Sub V V') : ∀ (x : Exs) {cs : List Value}, Exs.Is V x cs → Exs.Is V' x cs
  | .nil, cs, h => by simp only [Exs.Is] at h ⊢; exact h
  | .cons e r, cs, h => by
    simp only [Exs.Is] at h ⊢
    obtain ⟨c, cr, h1, h2, h3⟩ := h
    exact ⟨c, cr, h1, Ex.Is.mono hs e h2, Exs.Is.mono hs r h3⟩
  termination_by structural x => x
end
mutual
theorem St_.Is.mono {V V' : View} (hs : Sub V V') : ∀ (x : St_) {cs : List Value}, St_.Is V x cs → St_.Is V' x cs
  | .mk _ _ _ ix ex _ _ tn el, cs, h => by
    simp only [St_.Is] at h ⊢
    obtain ⟨sx, cx, ce, st, ct, se, cE, h0, h1, h2, h3, h4, h5, h6, h7⟩ := h
    exact ⟨sx, cx, ce, st, ct, se, cE, h0, h1.mono hs, Exs.Is.mono hs ix h2, Ex.Is.mono hs ex h3, h4.mono hs, Sts.Is.mono hs tn h5, h6.mono hs, Sts.Is.mono hs el h7⟩
  termination_by structural x => x
theorem Sts.Is.mono {V V' : View} (hs : Sub V V') : ∀ (x : Sts) {cs : List Value}, Sts.Is V x cs → Sts.Is V' x cs
  | .nil, cs, h => by simp only [Sts.Is] at h ⊢; exact h
  | .cons e r, cs, h => by
    simp only [Sts.Is] at h ⊢
    obtain ⟨c, cr, h1, h2, h3⟩ := h
    exact ⟨c, cr, h1, St_.Is.mono hs e h2, Sts.Is.mono hs r h3⟩
  termination_by structural x => x
end
theorem Dc.Is.mono {V V' : View} (hs : Sub V V') {x : Dc} {cs : List Value} (h : Dc.Is V x cs) : Dc.Is V' x cs := by
  obtain ⟨cl, ch, h0, h1, h2⟩ := h
  exact ⟨cl, ch, h0, Ex.Is.mono hs _ h1, Ex.Is.mono hs _ h2⟩
theorem DcsIs.mono {V V' : View} (hs : Sub V V') : ∀ {x : List Dc} {cs : List Value}, DcsIs V x cs → DcsIs V' x cs
  | [], cs, h => h
  | e :: r, cs, h => by
    obtain ⟨c, cr, h1, h2, h3⟩ := h
    exact ⟨c, cr, h1, h2.mono hs, DcsIs.mono hs h3⟩
theorem Pg.Is.mono {V V' : View} (hs : Sub V V') {p : Pg} {cs : List Value} (h : Pg.Is V p cs) : Pg.Is V' p cs := by
  obtain ⟨sd, cd, si, ci, ss, cS, h0, h1, h2, h3, h4, h5, h6⟩ := h
  exact ⟨sd, cd, si, ci, ss, cS, h0, h1.mono hs, h2.mono hs, h3.mono hs, Sts.Is.mono hs _ h4, h5.mono hs, Sts.Is.mono hs _ h6⟩

def Exs.list : Exs → List Ex
  | .nil => []
  | .cons e r => e :: r.list
def Sts.list : Sts → List St_
  | .nil => []
  | .cons e r => e :: r.list

theorem Ex.Is.len {V : View} {x : Ex} {cs : List Value} (h : Ex.Is V x cs) : cs.length = 7 := by
  cases x with
  | mk op p b i f nm as =>
    simp only [Ex.Is] at h
    obtain ⟨sl, css, rfl, _⟩ := h
    rfl
theorem St_.Is.len {V : View} {x : St_} {cs : List Value} (h : St_.Is V x cs) : cs.length = 15 := by
  cases x with
  | mk kd p nm ix ex lo hi tn el =>
    simp only [St_.Is] at h
    obtain ⟨sx, cx, ce, st, ct, se, cE, rfl, _, _, h, _⟩ := h
    simp [h.len]
theorem Dc.Is.len {V : View} {x : Dc} {cs : List Value} (h : Dc.Is V x cs) : cs.length = 20 := by
  obtain ⟨cl, ch, rfl, h1, h2⟩ := h
  simp [h1.len, h2.len]

/-- The k cells of element i of a row of such. -/
def Parts (k : Nat) (cs : List Value) (m : Nat) (I : Nat → List Value → Prop) : Prop :=
  cs.length = m * k ∧ ∀ i, i < m → ∃ c : List Value, c.length = k ∧ I i c ∧ ∀ j v, c[j]? = some v → cs[i * k + j]? = some v
theorem Parts.cons {k m : Nat} {c cr : List Value} {I : Nat → List Value → Prop} (hc : c.length = k) (hI : I 0 c) (h : Parts k cr m (fun i => I (i + 1))) : Parts k (c ++ cr) (m + 1) I := by
  refine ⟨by rw [List.length_append, hc, h.1, Nat.add_mul]; omega, fun i hi => ?_⟩
  cases i with
  | zero => exact ⟨c, hc, hI, fun j v hj => by
      have : j < c.length := (List.getElem?_eq_some_iff.1 hj).1
      rw [Nat.zero_mul, Nat.zero_add, List.getElem?_append_left this]; exact hj⟩
  | succ i =>
    obtain ⟨c', h1, h2, h3⟩ := h.2 i (by omega)
    refine ⟨c', h1, h2, fun j v hj => ?_⟩
    rw [Nat.add_mul, Nat.one_mul, List.getElem?_append_right (by omega), hc, show i * k + k + j - k = i * k + j by omega]
    exact h3 j v hj
theorem Exs.parts {V : View} : ∀ {as : Exs} {cs : List Value}, Exs.Is V as cs → Parts 7 cs as.list.length fun i c => ∃ x, as.list[i]? = some x ∧ Ex.Is V x c
  | .nil, cs, h => by
    simp only [Exs.Is] at h; subst h
    exact ⟨rfl, fun i hi => by simp [Exs.list] at hi⟩
  | .cons e r, cs, h => by
    simp only [Exs.Is] at h
    obtain ⟨c, cr, rfl, h1, h2⟩ := h
    exact Parts.cons h1.len ⟨e, rfl, h1⟩ (Exs.parts h2)
theorem Sts.parts {V : View} : ∀ {as : Sts} {cs : List Value}, Sts.Is V as cs → Parts 15 cs as.list.length fun i c => ∃ x, as.list[i]? = some x ∧ St_.Is V x c
  | .nil, cs, h => by
    simp only [Sts.Is] at h; subst h
    exact ⟨rfl, fun i hi => by simp [Sts.list] at hi⟩
  | .cons e r, cs, h => by
    simp only [Sts.Is] at h
    obtain ⟨c, cr, rfl, h1, h2⟩ := h
    exact Parts.cons h1.len ⟨e, rfl, h1⟩ (Sts.parts h2)
theorem DcsIs.parts {V : View} : ∀ {as : List Dc} {cs : List Value}, DcsIs V as cs → Parts 20 cs as.length fun i c => ∃ x, as[i]? = some x ∧ Dc.Is V x c
  | [], cs, h => by
    simp only [DcsIs] at h; subst h
    exact ⟨rfl, fun i hi => by simp at hi⟩
  | e :: r, cs, h => by
    simp only [DcsIs] at h
    obtain ⟨c, cr, rfl, h1, h2⟩ := h
    exact Parts.cons h1.len ⟨e, rfl, h1⟩ (DcsIs.parts h2)

/-! ### When two are the same -/
def allB (m : Nat) (n : Nat) (g : Nat → Bool) : Bool := m == n && (List.range m).all g
mutual
def sameE : Ex → Ex → Bool
  | .mk op _ b i f nm as, .mk op' _ b' i' f' nm' as' => op == op' && b == b' && i == i' && f == f' && decide (nm = nm') && sameEs as as'
def sameEs : Exs → Exs → Bool
  | .nil, .nil => true
  | .cons e r, .cons e' r' => sameE e e' && sameEs r r'
  | _, _ => false
end
mutual
def sameS : St_ → St_ → Bool
  | .mk kd _ nm ix ex lo hi tn el, .mk kd' _ nm' ix' ex' lo' hi' tn' el' => kd == kd' && decide (nm = nm') && lo == lo' && hi == hi' && sameEs ix ix' && sameE ex ex' && sameSs tn tn' && sameSs el el'
def sameSs : Sts → Sts → Bool
  | .nil, .nil => true
  | .cons e r, .cons e' r' => sameS e e' && sameSs r r'
  | _, _ => false
end
def sameD (x y : Dc) : Bool := x.inp == y.inp && decide (x.nm = y.nm) && x.ty == y.ty && x.len == y.len && x.rng == y.rng && sameE x.lo y.lo && sameE x.hi y.hi
def sameDs : List Dc → List Dc → Bool
  | [], [] => true
  | e :: r, e' :: r' => sameD e e' && sameDs r r'
  | _, _ => false
def sameP (p q : Pg) : Bool := p.ticks == q.ticks && sameDs p.ds q.ds && sameSs p.ini q.ini && sameSs p.step q.step

def at2 {α : Type} (f : α → α → Bool) (l r : List α) (i : Nat) : Bool :=
  match l[i]?, r[i]? with
  | some x, some y => f x y
  | _, _ => false
theorem allB_cons {α : Type} (f : α → α → Bool) (x y : α) (l r : List α) : allB (l.length + 1) (r.length + 1) (at2 f (x :: l) (y :: r)) = (f x y && allB l.length r.length (at2 f l r)) := by
  unfold allB
  rw [List.range_succ_eq_map, List.all_cons, List.all_map]
  have : (at2 f (x :: l) (y :: r) ∘ Nat.succ) = at2 f l r := by funext i; simp [at2]
  rw [this]
  have h0 : at2 f (x :: l) (y :: r) 0 = f x y := rfl
  rw [h0]
  cases f x y <;> simp
theorem sameEs_all : ∀ (l r : Exs), sameEs l r = allB l.list.length r.list.length (at2 sameE l.list r.list)
  | .nil, .nil => by simp [sameEs, Exs.list, allB]
  | .nil, .cons _ _ => by simp [sameEs, Exs.list, allB]
  | .cons _ _, .nil => by simp [sameEs, Exs.list, allB]
  | .cons e l, .cons e' r => by
    simp only [sameEs, Exs.list, List.length_cons]
    rw [allB_cons, sameEs_all l r]
theorem sameSs_all : ∀ (l r : Sts), sameSs l r = allB l.list.length r.list.length (at2 sameS l.list r.list)
  | .nil, .nil => by simp [sameSs, Sts.list, allB]
  | .nil, .cons _ _ => by simp [sameSs, Sts.list, allB]
  | .cons _ _, .nil => by simp [sameSs, Sts.list, allB]
  | .cons e l, .cons e' r => by
    simp only [sameSs, Sts.list, List.length_cons]
    rw [allB_cons, sameSs_all l r]
theorem sameDs_all : ∀ (l r : List Dc), sameDs l r = allB l.length r.length (at2 sameD l r)
  | [], [] => by simp [sameDs, allB]
  | [], _ :: _ => by simp [sameDs, allB]
  | _ :: _, [] => by simp [sameDs, allB]
  | e :: l, e' :: r => by
    simp only [sameDs, List.length_cons]
    rw [allB_cons, sameDs_all l r]

mutual
theorem sameE_refl : ∀ x, sameE x x = true
  | .mk _ _ _ _ _ _ as => by simp [sameE, sameEs_refl as]
theorem sameEs_refl : ∀ x, sameEs x x = true
  | .nil => by simp [sameEs]
  | .cons e r => by simp [sameEs, sameE_refl e, sameEs_refl r]
end
mutual
theorem sameS_refl : ∀ x, sameS x x = true
  | .mk _ _ _ ix ex _ _ tn el => by simp [sameS, sameEs_refl ix, sameE_refl ex, sameSs_refl tn, sameSs_refl el]
theorem sameSs_refl : ∀ x, sameSs x x = true
  | .nil => by simp [sameSs]
  | .cons e r => by simp [sameSs, sameS_refl e, sameSs_refl r]
end
theorem sameD_refl (x : Dc) : sameD x x = true := by simp [sameD, sameE_refl]
theorem sameDs_refl : ∀ x, sameDs x x = true
  | [] => rfl
  | e :: r => by simp [sameDs, sameD_refl, sameDs_refl r]
theorem sameP_refl (p : Pg) : sameP p p = true := by simp [sameP, sameDs_refl, sameSs_refl]
theorem dec_sym {α : Type} [DecidableEq α] (a b : α) : decide (a = b) = decide (b = a) := by
  by_cases h : a = b
  · subst h; rfl
  · simp [h, Ne.symm h]
theorem beq_sym {α : Type} [BEq α] [LawfulBEq α] (a b : α) : (a == b) = (b == a) := by
  cases h : (a == b) <;> cases k : (b == a) <;> simp_all
mutual
theorem sameE_symm : ∀ x y, sameE x y = sameE y x
  | .mk op _ b i f nm as, .mk op' _ b' i' f' nm' as' => by
    simp only [sameE]
    rw [sameEs_symm as as', beq_sym op, beq_sym b, beq_sym i, beq_sym f, dec_sym nm]
theorem sameEs_symm : ∀ x y, sameEs x y = sameEs y x
  | .nil, .nil => rfl
  | .nil, .cons _ _ => by simp [sameEs]
  | .cons _ _, .nil => by simp [sameEs]
  | .cons e r, .cons e' r' => by simp only [sameEs]; rw [sameE_symm e e', sameEs_symm r r']
end
mutual
theorem sameS_symm : ∀ x y, sameS x y = sameS y x
  | .mk kd _ nm ix ex lo hi tn el, .mk kd' _ nm' ix' ex' lo' hi' tn' el' => by
    simp only [sameS]
    rw [sameEs_symm ix, sameE_symm ex, sameSs_symm tn, sameSs_symm el, beq_sym kd, dec_sym nm, beq_sym lo, beq_sym hi]
theorem sameSs_symm : ∀ x y, sameSs x y = sameSs y x
  | .nil, .nil => rfl
  | .nil, .cons _ _ => by simp [sameSs]
  | .cons _ _, .nil => by simp [sameSs]
  | .cons e r, .cons e' r' => by simp only [sameSs]; rw [sameS_symm e e', sameSs_symm r r']
end
theorem sameD_symm (x y : Dc) : sameD x y = sameD y x := by
  simp only [sameD]
  rw [sameE_symm x.lo, sameE_symm x.hi, beq_sym x.inp, dec_sym x.nm, beq_sym x.ty, beq_sym x.len, beq_sym x.rng]
theorem sameDs_symm : ∀ x y, sameDs x y = sameDs y x
  | [], [] => rfl
  | [], _ :: _ => rfl
  | _ :: _, [] => rfl
  | e :: r, e' :: r' => by simp only [sameDs]; rw [sameD_symm e e', sameDs_symm r r']
theorem sameP_symm (p q : Pg) : sameP p q = sameP q p := by
  simp only [sameP]
  rw [sameDs_symm, sameSs_symm p.ini, sameSs_symm p.step, beq_sym p.ticks]

/-! ### How many -/
mutual
def numE : Ex → Nat
  | .mk _ _ _ _ _ _ as => 1 + numEs as
def numEs : Exs → Nat
  | .nil => 0
  | .cons e r => numE e + numEs r
end
def kidsE : Ex → Nat
  | .mk _ _ _ _ _ _ as => numEs as
theorem numE_kids (x : Ex) : numE x = 1 + kidsE x := by cases x; simp [numE, kidsE]
theorem numEs_sum : ∀ es : Exs, numEs es = (es.list.map numE).sum
  | .nil => rfl
  | .cons e r => by simp [numEs, Exs.list, numEs_sum r]
theorem sum_kids : ∀ l : List Ex, (l.map numE).sum = l.length + (l.map kidsE).sum
  | [] => rfl
  | x :: l => by simp only [List.map_cons, List.sum_cons, List.length_cons]; rw [sum_kids l, numE_kids]; omega
mutual
/-- statements -/
def cntS : St_ → Nat
  | .mk _ _ _ _ _ _ _ tn el => 1 + cntSs tn + cntSs el
def cntSs : Sts → Nat
  | .nil => 0
  | .cons s r => cntS s + cntSs r
end
mutual
/-- expressions of statements -/
def exS : St_ → Nat
  | .mk kd _ _ ix ex _ _ tn el => exSs tn + exSs el + numEs ix + (if kd = 1 ∨ kd = 2 then numE ex else 0)
def exSs : Sts → Nat
  | .nil => 0
  | .cons s r => exS s + exSs r
end
theorem cntSs_sum : ∀ es : Sts, cntSs es = (es.list.map cntS).sum
  | .nil => rfl
  | .cons e r => by simp [cntSs, Sts.list, cntSs_sum r]
theorem exSs_sum : ∀ es : Sts, exSs es = (es.list.map exS).sum
  | .nil => rfl
  | .cons e r => by simp [exSs, Sts.list, exSs_sum r]
end Fly
