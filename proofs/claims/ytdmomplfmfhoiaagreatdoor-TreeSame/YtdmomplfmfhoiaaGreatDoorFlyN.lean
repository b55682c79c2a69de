/-
  A small logic of walks: judgements, operations, regions, loops, calls. No condition.
-/
import Derived.Test.YtdmomplfmfhoiaaGreatDoorFlyM
namespace Fly
open Go

/-! ### Loops -/
inductive SubL : Lo → Lo → Prop
  | nil {L : Lo} : SubL [] L
  | cons {L2 L : Lo} {t : Nat} {v : Value} (h : lk L t = some v) (r : SubL L2 L) : SubL ((t, v) :: L2) L
theorem SubL.get {L2 L : Lo} (h : SubL L2 L) : ∀ t v, lk L2 t = some v → lk L t = some v := by
  induction h with
  | nil => intro t v h; simp [lk] at h
  | @cons L2 L t0 v0 h0 _ ih =>
    intro t v h
    simp only [lk] at h
    cases hb : Nat.beq t0 t with
    | true => rw [hb] at h; have := Nat.eq_of_beq_eq_true hb; subst this; simp at h; subst h; exact h0
    | false => rw [hb] at h; exact ih t v h
section
variable {P : Program} {n : Nat} {X : Cx} {L : Lo} {V : View} {G : Own} {K : List KI} {Q : Value → View → Own → Prop}
variable {ty : TypeId} {pos : String} {af : Array Edge} {gd : Option (Nat × Bool)} {ds : Option Tmp}
theorem Knows.sub {L2 : Lo} {a : Act} (h : Knows n L a) (hL : SubL L2 L) : Knows n L2 a := ⟨h.defers, h.size, fun t v e => h.get t v (hL.get t v e)⟩
/-- A loop: what holds at its head of these slots, views, own blocks; the number goes down. -/
theorem wc_while {c : Code} (I : Lo → View → Own → Nat → Prop) {m0 : Nat} {L0 : Lo} {G0 : Own} (hL : SubL L0 L) (hG : G0.Sublist G)
    (h0 : I L0 V G0 m0) (round : ∀ L' V' G' m, I L' V' G' m → WC P n X L' V' G' c (.lp (fun a w => ∃ L2 V2 G2 m2, I L2 V2 G2 m2 ∧ m2 < m ∧ Knows n L2 a ∧ Holds X V2 G2 w) :: K)) :
    WC P n X L V G (.loop c) K := fun a w ha hw => wc_loop I h0 round a w (ha.sub hL) (hw.sublist hG)
theorem we_round {I : Lo → View → Own → Nat → Prop} {m m2 : Nat} {L2 : Lo} {G2 : Own} (hL : SubL L2 L) (hG : G2.Sublist G) (hI : I L2 V G2 m2) (hm : m2 < m) :
    WE P n X L V G .normal (.lp (fun a w => ∃ L2 V2 G2 m2, I L2 V2 G2 m2 ∧ m2 < m ∧ Knows n L2 a ∧ Holds X V2 G2 w) :: K) :=
  we_lp fun _ _ ha hw => ⟨L2, V, G2, m2, hI, hm, ha.sub hL, hw.sublist hG⟩
theorem wc_less {c : Code} {L2 : Lo} {G2 : Own} (hL : SubL L2 L) (hG : G2.Sublist G) (h : WC P n X L2 V G2 c K) : WC P n X L V G c K := fun a w ha hw => h a w (ha.sub hL) (hw.sublist hG)
theorem wr_less {all : Array Oper} {ops : List Oper} {L2 : Lo} {G2 : Own} (hL : SubL L2 L) (hG : G2.Sublist G) (h : WR P n X L2 V G2 all ops K) : WR P n X L V G all ops K := fun a w ha hw => h a w (ha.sub hL) (hw.sublist hG)
theorem we_less {e : Exit} {L2 : Lo} {G2 : Own} (hL : SubL L2 L) (hG : G2.Sublist G) (h : WE P n X L2 V G2 e K) : WE P n X L V G e K := fun a w ha hw => h a w (ha.sub hL) (hw.sublist hG)

/-! ### What is read -/
def rd (V : View) (b o : Nat) (c : Value) : Prop := ∃ arr e fr, V b = some (.cells arr e fr) ∧ arr[o]? = some c
theorem rd.mono {V V' : View} {b o : Nat} {c : Value} (h : rd V b o c) (hs : Sub V V') : rd V' b o c := by
  obtain ⟨arr, e, fr, h1, h2⟩ := h
  exact ⟨arr, e, fr, hs _ _ h1, h2⟩
theorem op_loadR (T : Tabs P) {t : TypeId} {x : Operand} {k b off : Nat} {v : Value} (ht : T.ty t = some (false, k)) (hx : ev L x = some (.pointer (some ⟨b, off, none⟩))) (h : rd V b off v) (k' : Q v V G) : Opr P n X L V G ⟨ds, .load t x, ty, pos, af, gd⟩ Q := by
  obtain ⟨arr, e, fr, h1, h2⟩ := h
  exact op_loadc T ht hx (.seen h1) h2 k'
theorem op_loadRN (T : Tabs P) {t : TypeId} {x : Operand} {k b off : Nat} {vs : List Value} (ht : T.ty t = some (true, k)) (hx : ev L x = some (.pointer (some ⟨b, off, none⟩))) (hl : vs.length = k) (hk : 0 < k) (h : ∀ j v, vs[j]? = some v → rd V b (off + j) v) (k' : Q (.agg vs.toArray) V G) : Opr P n X L V G ⟨ds, .load t x, ty, pos, af, gd⟩ Q := by
  obtain ⟨v0, hv0⟩ : ∃ v0, vs[0]? = some v0 := ⟨vs[0]'(by omega), by simp [List.getElem?_eq_getElem (show 0 < vs.length by omega)]⟩
  obtain ⟨arr, e, fr, h1, _⟩ := h 0 v0 hv0
  refine op_loadcN T ht hx (.seen h1) hl (fun j v hj => ?_) k'
  obtain ⟨arr', e', fr', h1', h2'⟩ := h j v hj
  rw [h1] at h1'
  simp only [Option.some.injEq, Obj.cells.injEq] at h1'
  rw [h1'.1]; exact h2'
/-- A slice whose elements are of k cells each reads as the cells cs. -/
def Sl (k : Nat) (V : View) (v : Value) (cs : List Value) : Prop :=
  ∃ a len cap, v = .slice a len cap ∧ len ≤ cap ∧ cap ≤ maxLen ∧ cs.length = len * k ∧ (len = 0 ∨ ∃ b off, a = some ⟨b, off, none⟩ ∧ ∀ i c, cs[i]? = some c → rd V b (off + i) c)
theorem Sl.mono {k : Nat} {V V' : View} {v : Value} {cs : List Value} (h : Sl k V v cs) (hs : Sub V V') : Sl k V' v cs := by
  obtain ⟨a, len, cap, h1, h2, h3, h4, h5⟩ := h
  refine ⟨a, len, cap, h1, h2, h3, h4, h5.imp id ?_⟩
  rintro ⟨b, off, h6, h7⟩
  exact ⟨b, off, h6, fun i c hi => (h7 i c hi).mono hs⟩
theorem Sl.nil (k : Nat) (V : View) : Sl k V (.slice none 0 0) [] := ⟨none, 0, 0, rfl, Nat.le_refl _, by simp [maxLen], by simp, .inl rfl⟩
theorem op_lenS (T : Tabs P) {t e : TypeId} {k k2 : Nat} {x : Operand} {v : Value} {cs : List Value} {ts : Array TypeId} (hx : ev L x = some v) (hS : Sl k2 V v cs) (ht : ts[0]? = some t) (hE : T.el t = some (e, k)) {m : Nat} (hm : cs.length = m * k2) (hk : 0 < k2)
    (k' : Q (.int .i64 (m : Int)) V G) : Opr P n X L V G ⟨ds, .call { callee := .builtin .len, args := #[x], argTypes := ts }, ty, pos, af, gd⟩ Q := by
  obtain ⟨a, len, cap, rfl, _, _, h4, _⟩ := hS
  have : len = m := Nat.eq_of_mul_eq_mul_right hk (h4.symm.trans hm)
  subst this
  exact op_len T hx ht hE k'
theorem op_ixS (T : Tabs P) {t e : TypeId} {x y : Operand} {k : Nat} {κ : IntKind} {j : Int} {v : Value} {cs : List Value} (hx : ev L x = some v) (hS : Sl k V v cs) (hy : ev L y = some (.int κ j)) (hE : T.el t = some (e, k))
    (h0 : 0 ≤ j) (h1 : j.toNat * k < cs.length) (k' : ∀ b off, (∀ i c, cs[j.toNat * k + i]? = some c → rd V b (off + i) c) → Q (.pointer (some ⟨b, off, none⟩)) V G) : Opr P n X L V G ⟨ds, .indexAddr t x y, ty, pos, af, gd⟩ Q := by
  obtain ⟨a, len, cap, rfl, _, _, h4, h5⟩ := hS
  have hlt : j.toNat < len := by
    rw [h4] at h1
    exact Nat.lt_of_mul_lt_mul_right h1
  rcases h5 with h5 | ⟨b, off, rfl, h7⟩
  · omega
  · exact op_indexAddr T hx hy hE h0 (by omega) (k' b _ fun i c hi => by rw [Nat.add_assoc]; exact h7 _ c hi)
theorem op_sliceHS (T : Tabs P) {t e k : Nat} {x h : Operand} {v : Value} {cs : List Value} {κ : IntKind} {j : Int} (hx : ev L x = some v) (hS : Sl k V v cs) (hh : ev L h = some (.int κ j)) (hE : T.el t = some (e, k)) (hk : 0 < k) (h0 : 0 ≤ j) (h1 : j.toNat * k ≤ cs.length)
    (k' : ∀ v', Sl k V v' (cs.take (j.toNat * k)) → Q v' V G) : Opr P n X L V G ⟨ds, .slice t x none (some h) none, ty, pos, af, gd⟩ Q := by
  obtain ⟨a, len, cap, rfl, h2, h3, h4, h5⟩ := hS
  have hle : j.toNat ≤ len := by rw [h4] at h1; exact Nat.le_of_mul_le_mul_right h1 hk
  refine op_sliceH T hx hh hE h0 (by omega) (k' _ ⟨a, j.toNat, cap, rfl, by omega, h3, by rw [List.length_take]; omega, ?_⟩)
  rcases h5 with h5 | ⟨b, off, rfl, h7⟩
  · exact .inl (by omega)
  · refine .inr ⟨b, off, rfl, fun i c hi => h7 i c ?_⟩
    rw [List.getElem?_take] at hi
    split at hi
    · exact hi
    · cases hi
theorem op_sliceLS (T : Tabs P) {t e k : Nat} {x l : Operand} {v : Value} {cs : List Value} {κ : IntKind} {j : Int} (hx : ev L x = some v) (hS : Sl k V v cs) (hl : ev L l = some (.int κ j)) (hE : T.el t = some (e, k)) (hk : 0 < k) (h0 : 0 ≤ j) (h1 : j.toNat * k ≤ cs.length)
    (k' : ∀ v', Sl k V v' (cs.drop (j.toNat * k)) → Q v' V G) : Opr P n X L V G ⟨ds, .slice t x (some l) none none, ty, pos, af, gd⟩ Q := by
  obtain ⟨a, len, cap, rfl, h2, h3, h4, h5⟩ := hS
  have hle : j.toNat ≤ len := by rw [h4] at h1; exact Nat.le_of_mul_le_mul_right h1 hk
  refine op_sliceL T hx hl hE h0 (by omega) (k' _ ⟨_, len - j.toNat, cap - j.toNat, rfl, by omega, by omega, by rw [List.length_drop, h4, Nat.sub_mul], ?_⟩)
  rcases h5 with h5 | ⟨b, off, rfl, h7⟩
  · exact .inl (by omega)
  · by_cases hc : cap = j.toNat
    · exact .inl (by omega)
    · refine .inr ⟨b, off + j.toNat * k, by simp [laterA, hc, addr_add], fun i c hi => ?_⟩
      rw [Nat.add_assoc]
      exact h7 _ c (by rw [List.getElem?_drop] at hi; exact hi)

/-! ### Contracts that hand back something -/
/-- A call that hands back a value of which R is known, and keeps no block for the caller alone. -/
def Rel (P : Program) (f : FuncId) (args : List Value) (V : View) (R : Value → View → Prop) : Prop :=
  ∀ w, Seen V w → Fine P f args.toArray V w fun v' V' G' => G' = [] ∧ R v' V'
theorem op_rel (T : Tabs P) {f : Nat} {xs : List Operand} {vs : List Value} {R : Value → View → Prop} {ts : Array TypeId} (hx : evs L xs = some vs) (hg : T.go f = true) (hc : Rel P f vs V R) (k : ∀ v V', Sub V V' → R v V' → Q v V' G) :
    Opr P n X L V G ⟨ds, .call { callee := .value (.func f), args := xs.toArray, argTypes := ts }, ty, pos, af, gd⟩ Q := fun a ha w hw => by
  refine .inr ⟨f, vs.toArray, w, ?_, ?_⟩
  · have hm := evs_map ha xs vs hx
    simp [execOp, resolve, Deferred.ofValue, Act.eval, invoke, goes (T.go_ok f hg), hm]
  · refine (hc w hw.seen).mono ?_
    rintro e w' ⟨v, V', G', rfl, hh, rfl, hr⟩
    exact ⟨v, V', G, rfl, k v V' hh.sub hr, by simpa using hw.call rfl rfl (fun _ h => h) hh⟩
theorem rel_enter {f : FuncId} {fn : Func} {c : Code} {args : List Value} {R : Value → View → Prop} (hf : P.funcs[f]? = some fn) (hb : fn.body = some c) (hn : fn.ntmps = n) (hle : Nat.ble args.length n = true)
    (h : ∀ (X : Cx) (w : World), X.M = (fun _ => False) → X.w0 = w → X.V0 = V → X.R = finR P fn w V (fun v' V' G' => G' = [] ∧ R v' V') → WC P n X (argL 0 args) V [] c []) : Rel P f args V R :=
  fun w hV => enter hf hb hn hle hV fun X h1 h2 h3 h4 => h X w h1 h2 h3 h4
theorem rel_done {fn : Func} {w : World} {V0 : View} {R : Value → View → Prop} (hM : X.M = (fun _ => False)) (hw : X.w0 = w) (hV : X.V0 = V0) (hR : X.R = finR P fn w V0 fun v' V' G' => G' = [] ∧ R v' V') {u : Value}
    (hr : ∀ a w', Knows n L a → Holds X V G w' → (results fn a.tmps).run P w' = .ok u w') (he : R u V) : ∀ e, (e = .ret ∨ e = .normal) → St n X L V G fun a w => X.R e a w :=
  fin hM hw hV hR (G' := []) (fun _ h => h.drop) hr ⟨rfl, he⟩
theorem rel_ret {fn : Func} {w : World} {V0 : View} {R : Value → View → Prop} (hM : X.M = (fun _ => False)) (hw : X.w0 = w) (hV : X.V0 = V0) (hR : X.R = finR P fn w V0 fun v' V' G' => G' = [] ∧ R v' V') {u : Value}
    (hr : ∀ a w', Knows n L a → Holds X V G w' → (results fn a.tmps).run P w' = .ok u w') (he : R u V) : WE P n X L V G .ret K :=
  we_ret (rel_done hM hw hV hR hr he .ret (.inl rfl))
/-- The same, an own block among what is handed back: it is not written any more. -/
theorem freezeWE {e : Exit} {p : Nat × Obj} (hM : X.M = fun _ => False) (h : WE P n X L (addV V p.1 p.2) G e K) : WE P n X L V (p :: G) e K := fun a w ha hw => h a w ha hw.freeze
theorem freezeWC {c : Code} {p : Nat × Obj} (hM : X.M = fun _ => False) (h : V p.1 = none → WC P n X L (addV V p.1 p.2) G c K) : WC P n X L V (p :: G) c K := fun a w ha hw => h (hw.free _ (List.mem_cons_self ..)).2 a w ha hw.freeze
theorem freezeWR {all : Array Oper} {ops : List Oper} {p : Nat × Obj} (hM : X.M = fun _ => False) (h : V p.1 = none → WR P n X L (addV V p.1 p.2) G all ops K) : WR P n X L V (p :: G) all ops K := fun a w ha hw => h (hw.free _ (List.mem_cons_self ..)).2 a w ha hw.freeze
/-- A pure contract, on this view alone. -/
def PureV (P : Program) (f : FuncId) (args : List Value) (V : View) (v : Value) : Prop := Rel P f args V fun v' V' => v' = v ∧ V' = V
theorem op_pureV (T : Tabs P) {f : Nat} {xs : List Operand} {vs : List Value} {v : Value} {ts : Array TypeId} (hx : evs L xs = some vs) (hg : T.go f = true) (hc : PureV P f vs V v) (k : Q v V G) :
    Opr P n X L V G ⟨ds, .call { callee := .value (.func f), args := xs.toArray, argTypes := ts }, ty, pos, af, gd⟩ Q :=
  op_rel T hx hg hc (by rintro _ _ _ ⟨rfl, rfl⟩; exact k)
theorem pureV_ret {fn : Func} {w : World} {V0 : View} {v : Value} (hM : X.M = (fun _ => False)) (hw : X.w0 = w) (hV : X.V0 = V0) (hR : X.R = finR P fn w V0 fun v' V' G' => G' = [] ∧ v' = v ∧ V' = V0) {u : Value}
    (hr : ∀ a w', Knows n L a → Holds X V G w' → (results fn a.tmps).run P w' = .ok u w') (he : u = v) : WE P n X L V G .ret K :=
  pure_ret hM hw hV (by rw [hR]; congr 1; funext a b c; apply propext; constructor <;> (rintro ⟨h1, h2, h3⟩; simp_all)) hr he
end
end Fly
