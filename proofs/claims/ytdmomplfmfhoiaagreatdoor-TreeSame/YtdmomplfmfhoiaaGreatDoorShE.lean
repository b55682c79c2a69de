/-
  Trees and what they stand for; a statement reads its arguments as trees. No condition.
-/
import Derived.Test.YtdmomplfmfhoiaaGreatDoorShD
import Derived.Test.YtdmomplfmfhoiaaGreatDoorFlyU
namespace Sh
open Go Fly

/-- The program's tables, as the evaluator has them, are the program's. -/
structure Sound (P : Program) (T : Tbl) where
  tb : Tabs P
  ty : ∀ t r, T.ty t = some r → tb.ty t = some r
  fo : ∀ t f r, T.fo t f = some r → tb.fo t f = some r
  al : ∀ t f r, T.fo t f = some r → allTy P t = true
  el : ∀ t r, T.el t = some r → tb.el t = some r
  ze : ∀ t r, T.ze t = some r → tb.ze t = some r
  zc : ∀ t r, T.ze t = some r → r.all cOne = true
  ik : ∀ t κ, T.kd t = some (.int κ) → tb.ik t = some κ
  bo : ∀ t, T.kd t = some .bool → P.underlying t = some .bool
  str : ∀ t, T.kd t = some .str → P.underlying t = some .string
  flat : ∀ t us, T.kd t = some (.flat us) → flatOf P t = some us
  sml : ∀ t, T.sml t = true → P.bytesOf t ≤ 256
  fns : ∀ f fn, T.fns f = some fn → P.funcs[f]? = some fn
  go : ∀ f fn, T.fns f = some fn → tb.go f = true
  mo : P.follows .mixedOrders = true

def GOK (T : Tbl) (V : View) : Prop := ∀ g x, T.glob g = some x → Rep V (.pt x 0) (.pointer (some ⟨g, 0, none⟩))
def OpdOk (E : Env) (st : St) (V : View) (I : List IE) (L : Lo) (x : Operand) : Prop := ∀ sv, opd E st x = some sv → ∃ v, ev L x = some v ∧ RepS V I sv v

theorem bsome {α β : Type} {a : Option α} {f : α → Option β} {r : β} (h : a.bind f = some r) : ∃ x, a = some x ∧ f x = some r := Option.bind_eq_some_iff.1 h
theorem zC_rep {V : View} {v : Value} (h : cOne v = true) : Rep V (zC v) v ∧ (zC v).isAgg = false := by
  unfold cOne at h
  split at h
  · exact ⟨.sl (l := []) (vs := []) (a := none) (cap := 0) .nil (by simp) (by simp) (Nat.le_refl _) (by simp [maxLen]) (.inl rfl), rfl⟩
  · rename_i hn
    have hz : zC v = .s v := by unfold zC; split <;> first | (exfalso; exact hn rfl) | rfl
    rw [hz]
    exact ⟨.s h, rfl⟩
theorem zC_reps {V : View} : ∀ {l : List Value}, l.all cOne = true → RepA V (l.map zC) l ∧ ∀ x ∈ l.map zC, x.isAgg = false
  | [], _ => ⟨.nil, by simp⟩
  | v :: l, h => by
    simp only [List.all_cons, Bool.and_eq_true] at h
    have h1 := zC_rep (V := V) h.1
    have h2 := zC_reps (V := V) h.2
    exact ⟨.cons h1.1 h2.1, by simpa using ⟨h1.2, fun a ha => h2.2 _ (List.mem_map.2 ⟨a, ha, rfl⟩)⟩⟩
theorem zT_rep {V : View} {v : Value} (h : cOk v = true) : Rep V (zT v) v := by
  unfold cOk at h
  split at h
  · rename_i cs
    have h1 := zC_reps (V := V) h
    simpa [zT] using Rep.agg h1.1 h1.2
  · rename_i hn
    have : zT v = zC v := by unfold zT; split <;> first | (exfalso; exact hn _ rfl) | rfl
    rw [this]; exact (zC_rep h).1
theorem opdOk {E : Env} {st : St} {V : View} {I : List IE} {L : Lo} (hG : GOK E.T V) (hs : ∀ d sv, st.look d = some sv → sv ≠ .bad → ∃ v, lk L d = some v ∧ RepS V I sv v) (x : Operand) : OpdOk E st V I L x := by
  intro sv h
  cases x with
  | tmp t =>
    simp only [opd] at h
    replace h := bsome h; obtain ⟨s0, h0, h⟩ := h
    have h2 : s0 = sv ∧ sv ≠ .bad := by cases s0 <;> simp [nb] at h <;> subst h <;> exact ⟨rfl, by simp⟩
    exact hs t sv (by rw [h0, h2.1]) h2.2
  | const v =>
    simp only [opd] at h
    cases hc : cOk v with
    | false => rw [hc] at h; simp at h
    | true => rw [hc] at h; simp at h; subst h; exact ⟨v, rfl, .t (zT_rep hc)⟩
  | global g =>
    simp only [opd] at h
    replace h := bsome h; obtain ⟨x, hx, h⟩ := h
    simp at h; subst h
    exact ⟨_, rfl, .t (hG g x hx)⟩
  | func f =>
    simp [opd] at h; subst h
    exact ⟨_, rfl, .t (.fn .nil .nil)⟩

theorem asB_eq {sv : SV} {b : Bool} (h : asB sv = some b) : sv = .t (.s (.bool b)) := by
  unfold asB at h; split at h <;> simp at h; subst h; rfl
theorem asN_eq {sv : SV} {n : Int} (h : asN sv = some n) : ∃ κ, sv = .t (.s (.int κ n)) := by
  unfold asN at h; split at h <;> simp at h; subst h; exact ⟨_, rfl⟩
theorem asI_eq {κ : IntKind} {sv : SV} {n : Int} (h : asI κ sv = some n) : sv = .t (.s (.int κ n)) := by
  unfold asI at h
  split at h
  · rename_i κ' m
    by_cases hk : κ' = κ
    · subst hk; simp at h; subst h; rfl
    · simp [hk] at h
  · simp at h
theorem asS_eq {sv : SV} {b : ByteArray} (h : asS sv = some b) : sv = .t (.s (.string b)) := by
  unfold asS at h; split at h <;> simp at h; subst h; rfl
theorem asSl_eq {k : Nat} {sv : SV} {l : List T} (h : asSl k sv = some l) : sv = .t (.sl k l) := by
  unfold asSl at h
  split at h
  · rename_i k' m
    cases hk : Nat.beq k' k with
    | false => rw [hk] at h; simp at h
    | true => rw [hk] at h; simp at h; subst h; rw [Nat.eq_of_beq_eq_true hk]
  · simp at h
theorem asAgg_eq {sv : SV} {l : List T} (h : asAgg sv = some l) : sv = .t (.agg l) := by
  unfold asAgg at h; split at h <;> simp at h; subst h; rfl
theorem rep_s {V : View} {I : List IE} {v w : Value} (h : RepS V I (.t (.s v)) w) : w = v := by
  cases h with | t h => cases h with | s _ => rfl
theorem repB {V : View} {I : List IE} (b : Bool) : RepS V I (mkB b) (.bool b) := .t (.s rfl)
theorem repI {V : View} {I : List IE} (κ : IntKind) (n : Int) : RepS V I (mkI κ n) (.int κ n) := .t (.s rfl)

section
variable {P : Program} {E : Env} {n : Nat} {X : Cx} {L : Lo} {V : View} {I : List IE} {G : Own} {Q : Value → View → Own → Prop} {st : St} {O : Type} {r : O} {k : SV → St → Option O}
variable {ty : TypeId} {pos : String} {af : Array Edge} {gd : Option (Nat × Bool)} {ds : Option Tmp}

theorem intOp_ok {op : BinOp} {t u : TypeId} {x y : Operand} {κ : IntKind} {p q : Int} {sv : SV} (hx : ev L x = some (.int κ p)) (hy : ev L y = some (.int κ q)) (h : intOp op κ p q = some sv)
    (hQ : ∀ v, RepS V I sv v → Q v V G) : Opr P n X L V G ⟨ds, .binOp op t x y u, ty, pos, af, gd⟩ Q := by
  cases op <;> simp only [intOp, Option.some.injEq, reduceCtorEq] at h
  case add => subst h; exact op_add hx hy (hQ _ (repI _ _))
  case sub => subst h; exact op_sub hx hy (hQ _ (repI _ _))
  case mul => subst h; exact op_mul hx hy (hQ _ (repI _ _))
  case quo =>
    by_cases h0 : q = 0
    · simp [h0] at h
    · simp [h0] at h; subst h; exact op_quo hx hy h0 (hQ _ (repI _ _))
  case rem =>
    by_cases h0 : q = 0
    · simp [h0] at h
    · simp [h0] at h; subst h
      exact op_rem hx hy h0 (hQ _ (repI _ _))
  case and => subst h; exact op_and hx hy (hQ _ (repI _ _))
  case or => subst h; exact op_or hx hy (hQ _ (repI _ _))
  case xor => subst h; exact op_xor hx hy (hQ _ (repI _ _))
  case andNot => subst h; exact op_andNot hx hy (hQ _ (repI _ _))
  case eql => subst h; exact op_eql hx hy (hQ _ (repB _))
  case neq => subst h; exact op_neq hx hy (hQ _ (repB _))
  case lss => subst h; exact op_lss hx hy (hQ _ (repB _))
  case leq => subst h; exact op_leq hx hy (hQ _ (repB _))
  case gtr => subst h; exact op_gtr hx hy (hQ _ (repB _))
  case geq => subst h; exact op_geq hx hy (hQ _ (repB _))

theorem mem_cells_s {l : List T} {vs us : List Value} (h : RepA V l vs) (e : vals l = some us) : vs = us := by
  induction l generalizing vs us with
  | nil => cases h; simp [vals] at e; exact e.symm
  | cons x l ih =>
    cases h with
    | cons h h' =>
      cases x <;> simp only [vals, reduceCtorEq] at e
      replace e := bsome e; obtain ⟨r, hr, e⟩ := e
      simp only [Option.some.injEq] at e; subst e
      cases h with | s _ => rw [ih h' hr]
theorem binO_ok (S : Sound P E.T) {op : BinOp} {t u : TypeId} {x y : Operand} {a b : SV} {va vb : Value} {k : SV → Option O} (hx : ev L x = some va) (ha : RepS V I a va) (hy : ev L y = some vb) (hb : RepS V I b vb)
    (h : binO E op t u a b k = some r) (hQ : ∀ v sv, k sv = some r → RepS V I sv v → Q v V G) : Opr P n X L V G ⟨ds, .binOp op t x y u, ty, pos, af, gd⟩ Q := by
  unfold binO at h
  split at h
  · rename_i κ hk
    cases hs : isSh op with
    | true =>
      rw [hs] at h
      simp only [cond_true] at h
      split at h
      · rename_i κ' hk'
        replace h := bsome h; obtain ⟨p, hp, h⟩ := h
        replace h := bsome h; obtain ⟨q, hq, h⟩ := h
        have := asI_eq hp; subst this
        have := asI_eq hq; subst this
        have := rep_s ha; subst this
        have := rep_s hb; subst this
        by_cases h0 : 0 ≤ q
        · simp only [h0, decide_true, cond_true] at h
          replace h := bsome h; obtain ⟨sv, hsv, h⟩ := h
          cases op <;> simp only [shOp, Option.some.injEq, reduceCtorEq] at hsv
          · subst hsv; exact op_shl hx hy h0 (hQ _ _ h (repI _ _))
          · subst hsv; exact op_shr hx hy h0 (hQ _ _ h (repI _ _))
        · simp [h0] at h
      · simp at h
    | false =>
      rw [hs] at h
      simp only [cond_false] at h
      replace h := bsome h; obtain ⟨p, hp, h⟩ := h
      replace h := bsome h; obtain ⟨q, hq, h⟩ := h
      have := asI_eq hp; subst this
      have := asI_eq hq; subst this
      have := rep_s ha; subst this
      have := rep_s hb; subst this
      replace h := bsome h; obtain ⟨sv, hsv, h⟩ := h
      exact intOp_ok hx hy hsv fun v hv => hQ v sv h hv
  · rename_i hk
    replace h := bsome h; obtain ⟨p, hp, h⟩ := h
    replace h := bsome h; obtain ⟨q, hq, h⟩ := h
    have := asB_eq hp; subst this
    have := asB_eq hq; subst this
    have := rep_s ha; subst this
    have := rep_s hb; subst this
    cases op <;> simp only [reduceCtorEq] at h
    · exact op_eqb hx hy (S.bo _ hk) (by rw [show (p == q) = decide (p = q) by cases p <;> cases q <;> rfl]; exact hQ _ _ h (repB _))
    · exact op_neqb hx hy (S.bo _ hk) (by rw [show (p == q) = decide (p = q) by cases p <;> cases q <;> rfl]; exact hQ _ _ h (repB _))
  · rename_i hk
    replace h := bsome h; obtain ⟨p, hp, h⟩ := h
    replace h := bsome h; obtain ⟨q, hq, h⟩ := h
    have := asS_eq hp; subst this
    have := asS_eq hq; subst this
    have := rep_s ha; subst this
    have := rep_s hb; subst this
    cases op <;> simp only [reduceCtorEq] at h
    · cases hc : Nat.ble (p.size + q.size) 549755813888 with
      | false => rw [hc] at h; simp at h
      | true =>
        rw [hc] at h
        exact op_addS hx hy (by have := Nat.le_of_ble_eq_true hc; omega) (hQ _ _ h (.t (.s rfl)))
    · exact op_eqs hx hy (hQ _ _ h (repB _))
    · exact op_neqs hx hy (hQ _ _ h (repB _))
  · rename_i us hk
    replace h := bsome h; obtain ⟨p, hp, h⟩ := h
    replace h := bsome h; obtain ⟨q, hq, h⟩ := h
    replace h := bsome h; obtain ⟨ps, hps, h⟩ := h
    replace h := bsome h; obtain ⟨qs, hqs, h⟩ := h
    replace h := bsome h; obtain ⟨b, hb', h⟩ := h
    have := asAgg_eq hp; subst this
    have := asAgg_eq hq; subst this
    cases ha with | t ha => cases ha with | agg ha _ =>
    cases hb with | t hb => cases hb with | agg hb _ =>
    have := mem_cells_s ha hps; subst this
    have := mem_cells_s hb hqs; subst this
    cases op <;> simp only [reduceCtorEq] at h
    · exact op_eqF hx hy (S.flat _ _ hk) hb' (hQ _ _ h (repB _))
    · exact op_neqF hx hy (S.flat _ _ hk) hb' (hQ _ _ h (repB _))
  · simp at h
theorem unO_ok {op : UnOp} {t : TypeId} {x : Operand} {a : SV} {va : Value} {k : SV → Option O} (hx : ev L x = some va) (ha : RepS V I a va)
    (h : unO op a k = some r) (hQ : ∀ v sv, k sv = some r → RepS V I sv v → Q v V G) : Opr P n X L V G ⟨ds, .unOp op t x, ty, pos, af, gd⟩ Q := by
  unfold unO at h
  split at h
  · replace h := bsome h; obtain ⟨b, hb, h⟩ := h
    have := asB_eq hb; subst this
    have := rep_s ha; subst this
    exact op_not hx (hQ _ _ h (repB _))
  · split at h
    · have := rep_s ha; subst this
      exact op_neg hx (hQ _ _ h (repI _ _))
    · simp at h
  · simp at h

theorem evBin_ok (S : Sound P E.T) {op : BinOp} {t u : TypeId} {x y : Operand} (hx : OpdOk E st V I L x) (hy : OpdOk E st V I L y) (h : evBin E st op t x y u k = some r)
    (hQ : ∀ v sv, k sv st = some r → RepS V I sv v → Q v V G) : Opr P n X L V G ⟨ds, .binOp op t x y u, ty, pos, af, gd⟩ Q := by
  replace h := bsome h; obtain ⟨a, ha, h⟩ := h
  replace h := bsome h; obtain ⟨b, hb, h⟩ := h
  obtain ⟨va, hva, hra⟩ := hx a ha
  obtain ⟨vb, hvb, hrb⟩ := hy b hb
  exact binO_ok S hva hra hvb hrb h hQ
theorem evUn_ok {op : UnOp} {t : TypeId} {x : Operand} (hx : OpdOk E st V I L x) (h : evUn E st op x k = some r)
    (hQ : ∀ v sv, k sv st = some r → RepS V I sv v → Q v V G) : Opr P n X L V G ⟨ds, .unOp op t x, ty, pos, af, gd⟩ Q := by
  replace h := bsome h; obtain ⟨a, ha, h⟩ := h
  obtain ⟨va, hva, hra⟩ := hx a ha
  exact unO_ok hva hra h hQ
theorem evConv_ok (S : Sound P E.T) {s d : TypeId} {x : Operand} (hx : OpdOk E st V I L x) (h : evConv E st s d x k = some r)
    (hQ : ∀ v sv, k sv st = some r → RepS V I sv v → Q v V G) : Opr P n X L V G ⟨ds, .convert s d x, ty, pos, af, gd⟩ Q := by
  replace h := bsome h; obtain ⟨a, ha, h⟩ := h
  obtain ⟨va, hva, hra⟩ := hx a ha
  split at h
  · rename_i κ κ' hk hk'
    replace h := bsome h; obtain ⟨m, hm, h⟩ := h
    have := asI_eq hm; subst this
    have := rep_s hra; subst this
    exact op_convert S.tb hva (S.ik _ _ hk) (S.ik _ _ hk') (hQ _ _ h (repI _ _))
  · simp at h
theorem evPick_ok {c x y : Operand} (hc : OpdOk E st V I L c) (hx : OpdOk E st V I L x) (hy : OpdOk E st V I L y) (h : evPick E st c x y k = some r)
    (hQ : ∀ v sv, k sv st = some r → RepS V I sv v → Q v V G) : Opr P n X L V G ⟨ds, .pick c x y, ty, pos, af, gd⟩ Q := by
  replace h := bsome h; obtain ⟨a, ha, h⟩ := h
  obtain ⟨va, hva, hra⟩ := hc a ha
  replace h := bsome h; obtain ⟨b, hb, h⟩ := h
  have := asB_eq hb; subst this
  have := rep_s hra; subst this
  cases b with
  | true =>
    replace h := bsome h; obtain ⟨c, hc, h⟩ := h
    obtain ⟨vc, hvc, hrc⟩ := hx c hc
    exact op_pick_t hva hvc (hQ _ _ h hrc)
  | false =>
    replace h := bsome h; obtain ⟨c, hc, h⟩ := h
    obtain ⟨vc, hvc, hrc⟩ := hy c hc
    exact op_pick_f hva hvc (hQ _ _ h hrc)
theorem evEx_ok {x : Operand} {i : Nat} (hx : OpdOk E st V I L x) (h : evEx E st x i k = some r)
    (hQ : ∀ v sv, k sv st = some r → RepS V I sv v → Q v V G) : Opr P n X L V G ⟨ds, .extract x i, ty, pos, af, gd⟩ Q := by
  replace h := bsome h; obtain ⟨a, ha, h⟩ := h
  obtain ⟨va, hva, hra⟩ := hx a ha
  unfold exO at h
  split at h
  · replace h := bsome h; obtain ⟨s, hs, h⟩ := h
    cases hra with | tup hr =>
    obtain ⟨v, hv, hrv⟩ := hr.get hs
    exact op_extract hva hv (hQ _ _ h hrv)
  · simp at h
theorem opr_nil {x : Operand} {v : Value} (hx : ev L x = some v) (hv : (∃ a, v = .pointer (some a))) (hQ : Q v V G) : Opr P n X L V G ⟨ds, .nilCheck x, ty, pos, af, gd⟩ Q := by
  obtain ⟨a, rfl⟩ := hv
  exact opr_run (fun ac w ha => by simp [execOp, ha.ev hx]) hQ
theorem evNil_ok {x : Operand} (hx : OpdOk E st V I L x) (h : evNil E st x k = some r)
    (hQ : ∀ v sv, k sv st = some r → RepS V I sv v → Q v V G) : Opr P n X L V G ⟨ds, .nilCheck x, ty, pos, af, gd⟩ Q := by
  replace h := bsome h; obtain ⟨a, ha, h⟩ := h
  obtain ⟨va, hva, hra⟩ := hx a ha
  unfold nilO at h
  split at h
  · refine opr_nil hva ?_ (hQ _ _ h hra); cases hra; exact ⟨_, rfl⟩
  · refine opr_nil hva ?_ (hQ _ _ h hra); cases hra; exact ⟨_, rfl⟩
  · refine opr_nil hva ?_ (hQ _ _ h hra); cases hra with | t hr => cases hr; exact ⟨_, rfl⟩
  · simp at h
theorem addrO_ok {s f o kk : Nat} {g : Bool} {x : Operand} {a : SV} {va : Value} {k : SV → Option O} (Tb : Tabs P) (hx : ev L x = some va) (ha : RepS V I a va) (hf : Tb.fo s f = some (o, g, kk)) (h : addrO a o k = some r)
    (hQ : ∀ v sv, k sv = some r → RepS V I sv v → Q v V G) : Opr P n X L V G ⟨ds, .fieldAddr s x f, ty, pos, af, gd⟩ Q := by
  unfold addrO at h
  split at h
  · cases ha with | t hr => cases hr with | pt h1 h2 h3 =>
    exact op_fieldAddr Tb hx hf (hQ _ _ h (.t (by rw [Nat.add_assoc]; exact .pt h1 h2 h3)))
  · cases ha with | ref h1 => exact op_fieldAddr Tb hx hf (hQ _ _ h (.ref h1))
  · cases ha with | ep h1 => exact op_fieldAddr Tb hx hf (hQ _ _ h (by rw [Nat.add_assoc]; exact .ep h1))
  · simp at h
theorem evFA_ok (S : Sound P E.T) {s f : Nat} {x : Operand} (hx : OpdOk E st V I L x) (h : evFA E st s x f k = some r)
    (hQ : ∀ v sv, k sv st = some r → RepS V I sv v → Q v V G) : Opr P n X L V G ⟨ds, .fieldAddr s x f, ty, pos, af, gd⟩ Q := by
  replace h := bsome h; obtain ⟨a, ha, h⟩ := h
  obtain ⟨va, hva, hra⟩ := hx a ha
  replace h := bsome h; obtain ⟨q, hq, h⟩ := h
  exact addrO_ok S.tb hva hra (S.fo _ _ _ hq) h hQ
end
end Sh
