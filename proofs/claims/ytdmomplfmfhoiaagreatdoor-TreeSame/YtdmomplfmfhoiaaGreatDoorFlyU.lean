/-
  A small logic of walks: judgements, operations, regions, loops, calls. No condition.
-/
import Derived.Test.YtdmomplfmfhoiaaGreatDoorFlyS
import Derived.Defers
namespace Fly
open Go
/-- The same of a call that was put off. -/
def FingD (P : Program) (f : FuncId) (args : Array Value) (V : View) (G0 : Own) (Q : Value → View → Own → Prop) : Prop :=
  ∀ w u, Seen V w → (∀ p ∈ G0, w.heap[p.1]? = some p.2) → (∀ p ∈ G0, V p.1 = none) → (G0.map (·.1)).Nodup →
    CallsD P f args u w fun e u' w' => u' = u ∧ ∃ v V' G', e = .returned v ∧ Holds ⟨keys G0, w, V, fun _ _ _ => False⟩ V' G' w' ∧ Q v V' G'
def actD (a : Act) (D : List Deferred) : Act := { a with defers := a.defers ++ D }
theorem actD_put (a : Act) (D : List Deferred) (d : Option Tmp) (v : Value) : (actD a D).put d v = actD (a.put d v) D := by cases d <;> rfl
theorem actD_eval (a : Act) (D : List Deferred) : (actD a D).eval = a.eval := by funext x; cases x <;> rfl
theorem upon_frame {P : Program} {o : Oper} {a : Act} {D : List Deferred} {N N' : Act → World → Prop} {Q Q' : Exit → Act → World → Prop} (hN : ∀ a w, N a w → N' (actD a D) w) (hQ : ∀ e a w, Q e a w → Q' e (actD a D) w) :
    ∀ r : Result Next, o.upon P a N Q r → o.upon P (actD a D) N' Q' r := by
  intro r h
  have hl : LetsOut Q → LetsOut Q' := fun ⟨a, w, q⟩ => ⟨_, w, hQ _ a w q⟩
  unfold Oper.upon at h ⊢
  split at h
  · rw [actD_put]; exact hN _ _ h
  · rw [actD_put]; exact hN _ _ h
  · rename_i d w'
    have e : ({ (actD a D) with defers := d :: (actD a D).defers } : Act) = actD { a with defers := d :: a.defers } D := rfl
    rw [e, actD_put]; exact hN _ _ h
  · refine h.mono fun e w' q => ?_
    cases e with
    | returned v => simp only at q ⊢; rw [actD_put]; exact hN _ _ q
    | panicked ch => exact hQ _ _ _ q
    | outgrown => exact hl q
  · rename_i row args w'
    exact fun c cs => let ⟨v, w2, q, s⟩ := h c cs; ⟨v, w2, by show N' ((actD a D).put o.dst v) w2; rw [actD_put]; exact hN _ _ q, s⟩
  · exact hQ _ _ _ h
  · exact h.elim
theorem wpList_frame {P : Program} {all : Array Oper} {D : List Deferred} {Q Q' : Exit → Act → World → Prop} (hQ : ∀ e a w, Q e a w → Q' e (actD a D) w) : ∀ (l : List Oper) (a : Act) (w : World), wpList P all Q l a w → wpList P all Q' l (actD a D) w
  | [], a, w, h => hQ _ _ _ h
  | o :: l, a, w, h => by
    have hl : LetsOut Q → LetsOut Q' := fun ⟨a, w, q⟩ => ⟨_, w, hQ _ a w q⟩
    unfold wpList at h ⊢
    have ht : (actD a D).tmps = a.tmps := rfl
    rw [ht]
    split at h
    · rename_i hw
      rw [if_pos hw]
      rcases h with h | ⟨h1, h2⟩
      · left
        unfold Oper.wp at h ⊢
        rw [actD_eval]
        exact upon_frame (fun a w q => wpList_frame hQ l a w q) hQ _ h
      · right
        refine ⟨?_, hl h2⟩
        unfold Oper.asks at h1 ⊢
        rw [actD_eval]; exact h1
    · rename_i hw
      rw [if_neg hw, actD_put]
      exact wpList_frame hQ l _ w h

section
variable {P : Program} {n : Nat} {X : Cx} {L : Lo} {V : View} {G : Own} {K : List KI} {Q : Value → View → Own → Prop} {all : Array Oper}
variable {ty : TypeId} {pos : String} {af : Array Edge} {gd : Option (Nat × Bool)} {ds : Option Tmp}
def endR (w : World) (V : View) (G0 : Own) (Q : Value → View → Own → Prop) : Ending → World → Prop :=
  fun e w' => ∃ v V' G', e = .returned v ∧ Holds ⟨keys G0, w, V, fun _ _ _ => False⟩ V' G' w' ∧ Q v V' G'
theorem fing_enter2 {f : FuncId} {fn : Func} {c : Code} {args : List Value} {n : Nat} {G0 : Own}
    (hf : P.funcs[f]? = some fn) (hb : fn.body = some c) (hn : fn.ntmps = n) (hle : Nat.ble args.length n = true)
    (h : ∀ (X : Cx) (w : World), X.M = keys G0 → (∀ r, X.M r → r < X.w0.heap.size) → X.w0 = w → X.V0 = V → X.R = fing P fn w V G0 Q → WC P n X (argL 0 args) V G0 c []) : Fing P f args.toArray V G0 Q ∧ FingD P f args.toArray V G0 Q := by
  refine ⟨fing_enter hf hb hn hle h, ?_⟩
  intro w u hV hG hVn hnd
  refine callsD_of_wp hf hb ?_
  have h1 := h ⟨keys G0, w, V, fing P fn w V G0 Q⟩ w rfl (fun r hr => by
    obtain ⟨p, hp, e⟩ := List.mem_map.1 hr
    have := (Array.getElem?_eq_some_iff.1 (hG p hp)).1
    rw [← e]; exact this) rfl rfl rfl
  refine h1 _ w ⟨rfl, ?_, fun t v ht => ?_⟩ ⟨Ext.refl _ _, hV, hG, fun p hp => ⟨.inr (List.mem_map.2 ⟨p, hp, rfl⟩), hVn p hp⟩, hnd, Sub.refl _, fun r h0 hr => absurd h0 hr⟩
  · have : args.length ≤ n := Nat.le_of_ble_eq_true hle
    simp [hn]; omega
  · have := (lk_argL args 0 t v ht).2
    simp only [Nat.sub_zero] at this
    have hlt : t < args.length := (List.getElem?_eq_some_iff.1 this).1
    rw [Array.getElem?_append_left (by simpa using hlt)]
    simpa using this
/-- A function in which something is put off. -/
theorem fing_enterD {f : FuncId} {fn : Func} {c : Code} {args : List Value} {n : Nat} {G0 : Own}
    (hf : P.funcs[f]? = some fn) (hb : fn.body = some c) (hn : fn.ntmps = n) (hle : Nat.ble args.length n = true)
    (h : ∀ (X : Cx) (w : World), X.M = keys G0 → (∀ r, X.M r → r < X.w0.heap.size) → X.w0 = w → X.V0 = V → X.R = bodyPostD P fn (endR w V G0 Q) → WC P n X (argL 0 args) V G0 c []) : Fing P f args.toArray V G0 Q := by
  intro w hV hG hVn hnd
  refine calls_of_wp_defers hf hb ?_
  have h1 := h ⟨keys G0, w, V, bodyPostD P fn (endR w V G0 Q)⟩ w rfl (fun r hr => by
    obtain ⟨p, hp, e⟩ := List.mem_map.1 hr
    have := (Array.getElem?_eq_some_iff.1 (hG p hp)).1
    rw [← e]; exact this) rfl rfl rfl
  refine h1 _ w ⟨rfl, ?_, fun t v ht => ?_⟩ ⟨Ext.refl _ _, hV, hG, fun p hp => ⟨.inr (List.mem_map.2 ⟨p, hp, rfl⟩), hVn p hp⟩, hnd, Sub.refl _, fun r h0 hr => absurd h0 hr⟩
  · have : args.length ≤ n := Nat.le_of_ble_eq_true hle
    simp [hn]; omega
  · have := (lk_argL args 0 t v ht).2
    simp only [Nat.sub_zero] at this
    have hlt : t < args.length := (List.getElem?_eq_some_iff.1 this).1
    rw [Array.getElem?_append_left (by simpa using hlt)]
    simpa using this
theorem holds_end {w0 w : World} {V0 : View} {G0 G' : Own} (hM : X.M = keys G0) (hw : X.w0 = w0) (hV : X.V0 = V0) (h : Holds X V G' w) : Holds ⟨keys G0, w0, V0, fun _ _ _ => False⟩ V G' w := by
  obtain ⟨M, ww, VV, RR⟩ := X
  simp only at hM hw hV
  subst hM hw hV
  exact ⟨h.ext, h.view, h.own, h.free, h.nodup, h.sub, h.newer⟩
/-- Its end where nothing was put off. -/
theorem fingD_end {fn : Func} {w0 : World} {V0 : View} {G0 : Own} (hM : X.M = keys G0) (hw : X.w0 = w0) (hV : X.V0 = V0) (hR : X.R = bodyPostD P fn (endR w0 V0 G0 Q)) {v : Value} (G' : Own)
    (hG : G'.Sublist G) (hv : ∀ a w', Knows n L a → Holds X V G w' → (results fn a.tmps).run P w' = .ok v w') (hQ : Q v V G') : WE P n X L V G .normal [] := by
  refine we_end fun a w ha hh => ?_
  rw [hR]
  show Leaves P fn a.tmps _ a.defers .returning w
  rw [ha.defers]
  exact ⟨v, hv a w ha hh, v, V, G', rfl, holds_end hM hw hV (hh.sublist hG), hQ⟩
def tailX (P : Program) (fn : Func) (R : Ending → World → Prop) (d : Deferred) (X : Cx) : Cx := { X with R := fun e a w => e = .normal ∧ a.defers = [] ∧ Leaves P fn a.tmps R [d] .returning w }
/-- A call is put off; what is left is one region. -/
theorem wr_defer {f : Nat} {xs : List Operand} {vs : List Value} {ts : Array TypeId} {fn : Func} {R : Ending → World → Prop} {id : Nat} {l : List Oper} (hx : evs L xs = some vs) (hR : X.R = bodyPostD P fn R)
    (h : WR P n (tailX P fn R { target := .fn (.func f) #[], args := vs.toArray } X) L V G l.toArray l []) :
    WR P n X L V G all [⟨none, .defer { callee := .value (.func f), args := xs.toArray, argTypes := ts }, ty, pos, af, none⟩] [.code (.region id l.toArray false)] := by
  intro a w ha hw
  have h1 := h a w ha ⟨hw.ext, hw.view, hw.own, hw.free, hw.nodup, hw.sub, hw.newer⟩
  have hm := evs_map ha xs vs hx
  unfold wpList
  rw [if_pos (by simp [Region.wanted])]
  left
  have hr : (execOp a.eval ⟨none, .defer { callee := .value (.func f), args := xs.toArray, argTypes := ts }, ty, pos, af, none⟩).run P w = .ok (.defer { target := .fn (.func f) #[], args := vs.toArray }) w := by
    simp [execOp, resolve, Deferred.ofValue, Act.eval, hm]
  unfold Oper.wp
  rw [hr, Oper.upon_defer]
  show Code.wp P (.region id l.toArray false) (Post P X.R []) _ w
  refine wp_region_lit ?_
  have e : ({ a with defers := ({ target := .fn (.func f) #[], args := vs.toArray } : Deferred) :: a.defers } : Act).put none undef = actD a [{ target := .fn (.func f) #[], args := vs.toArray }] := by
    simp [Act.put, actD, ha.defers]
  rw [e]
  refine wpList_frame (fun e a w q => ?_) l a w h1
  obtain ⟨rfl, hd, hL⟩ := q
  simp only [Post]
  rw [hR]
  show Leaves P fn (actD a _).tmps R (actD a _).defers .returning w
  have : (actD a [({ target := .fn (.func f) #[], args := vs.toArray } : Deferred)]).defers = [{ target := .fn (.func f) #[], args := vs.toArray }] := by simp [actD, hd]
  rw [this]
  exact hL
/-- The end, where one call was put off. -/
theorem fingD_late {f : Nat} {vs : List Value} {fn : Func} {w0 : World} {V0 : View} {G0 Ga Gb : Own} {R2 : Value → View → Own → Prop} {X0 : Cx} (T : Tabs P) (hg : T.go f = true) (hM : X0.M = keys G0) (hw : X0.w0 = w0) (hV : X0.V0 = V0)
    (hF : FingD P f vs.toArray V Ga R2) (hp : G.Perm (Ga ++ Gb)) (hr : fn.results = #[]) (k : ∀ v V' G', R2 v V' G' → ∃ G2, G2.Sublist (G' ++ Gb) ∧ Q (.tuple #[]) V' G2) :
    WE P n (tailX P fn (endR w0 V0 G0 Q) { target := .fn (.func f) #[], args := vs.toArray } X0) L V G .normal [] := by
  refine we_end fun a w ha hh => ?_
  refine ⟨rfl, ha.defers, ?_⟩
  have hq := hh.perm hp
  have hnd := hq.nodup
  rw [List.map_append, List.nodup_append] at hnd
  refine leaves_cons (f := f) (args := vs.toArray) (by simp) (by simp [invoke, goes (T.go_ok f hg)]) ?_
  refine (hF w .returning hq.seen (fun p hp => hq.own p (List.mem_append.2 (.inl hp))) (fun p hp => (hq.free p (List.mem_append.2 (.inl hp))).2) hnd.1).mono ?_
  rintro e u' w' ⟨rfl, v, V', G', rfl, hh', hr2⟩
  have hc := hq.callg rfl rfl rfl hh'
  obtain ⟨G2, hs, hQ⟩ := k v V' G' hr2
  have hres := res0 (P := P) hr a w' ha hc
  have hc' : Holds X0 V' G2 w' := by
    have := hc.sublist hs
    exact ⟨this.ext, this.view, this.own, this.free, this.nodup, this.sub, this.newer⟩
  exact ⟨.tuple #[], hres, .tuple #[], V', G2, rfl, holds_end hM hw hV hc', hQ⟩
/-- A piece of a text. -/
theorem op_sliceStr {t : TypeId} {x l h : Operand} {s : ByteArray} {κ κ' : IntKind} {j i : Int} (hx : ev L x = some (.string s)) (hl : ev L l = some (.int κ j)) (hh : ev L h = some (.int κ' i)) (hu : P.underlying t = some .string) (h0 : 0 ≤ j) (h1 : j ≤ i) (h2 : i ≤ (s.size : Int))
    (k' : Q (.string (s.extract j.toNat i.toNat)) V G) : Opr P n X L V G ⟨ds, .slice t x (some l) (some h) none, ty, pos, af, gd⟩ Q := by
  refine opr_run (fun ac w ha => ?_) k'
  have h3 : 0 ≤ i := by omega
  have h4 : ¬ (max i 0 < j) := by omega
  simp [execOp, ha.ev hx, ha.ev hl, ha.ev hh, Instr.sliceAt, Instr.slice, run_underlying hu, Instr.sliceBounds, Instr.sliceBound, asIntOf, h0, h2, h3, h4]
theorem op_indexAddrA {t e : TypeId} {x y : Operand} {b off m k : Nat} {κ : IntKind} {j : Int} {g : Bool} (hx : ev L x = some (.pointer (some ⟨b, off, none⟩))) (hy : ev L y = some (.int κ j)) (hu : P.underlying t = some (.array m e)) (hk : Ty P e = some (g, k))
    (h0 : 0 ≤ j) (h1 : j < (m : Int)) (k' : Q (.pointer (some ⟨b, off + j.toNat * k, none⟩)) V G) : Opr P n X L V G ⟨ds, .indexAddr t x y, ty, pos, af, gd⟩ Q := by
  refine opr_run (fun a w ha => ?_) k'
  have h2 : j.toNat < m := by omega
  simp [execOp, ha.ev hx, ha.ev hy, Instr.indexAt, Instr.sureAddr, asIntOf, run_underlying hu, h0, h1, h2, (Ty_run hk w).2.1, addr_add]
theorem op_subu8 {t u : TypeId} {x y : Operand} {p q : Int} (hx : ev L x = some (.int .u8 p)) (hy : ev L y = some (.int .u8 q)) (h1 : 0 ≤ p - q) (h2 : p - q < 256) (k : Q (.int .u8 (p - q)) V G) : Opr P n X L V G ⟨ds, .binOp .sub t x y u, ty, pos, af, gd⟩ Q :=
  op_sub hx hy (by rw [wrap_u8_in h1 h2]; exact k)
theorem op_addS {t u : TypeId} {x y : Operand} {p q : ByteArray} (hx : ev L x = some (.string p)) (hy : ev L y = some (.string q)) (h : p.size + q.size ≤ 9223372036854775807) (k : Q (.string (p ++ q)) V G) : Opr P n X L V G ⟨ds, .binOp .add t x y u, ty, pos, af, gd⟩ Q := by
  refine op_str hx hy (fun w => ?_) rfl k
  have hm : IntKind.i64.max = 9223372036854775807 := rfl
  simp [Op.stringOp, hm]
  omega
theorem op_lssT {t u : TypeId} {x y : Operand} {κ : IntKind} {p q : Int} (hx : ev L x = some (.int κ p)) (hy : ev L y = some (.int κ q)) (h : p < q) (k : Q (.bool true) V G) : Opr P n X L V G ⟨ds, .binOp .lss t x y u, ty, pos, af, gd⟩ Q :=
  op_lss hx hy (by rw [decide_eq_true h]; exact k)
theorem op_lssF {t u : TypeId} {x y : Operand} {κ : IntKind} {p q : Int} (hx : ev L x = some (.int κ p)) (hy : ev L y = some (.int κ q)) (h : ¬ p < q) (k : Q (.bool false) V G) : Opr P n X L V G ⟨ds, .binOp .lss t x y u, ty, pos, af, gd⟩ Q :=
  op_lss hx hy (by rw [decide_eq_false h]; exact k)
theorem op_gtrT {t u : TypeId} {x y : Operand} {κ : IntKind} {p q : Int} (hx : ev L x = some (.int κ p)) (hy : ev L y = some (.int κ q)) (h : q < p) (k : Q (.bool true) V G) : Opr P n X L V G ⟨ds, .binOp .gtr t x y u, ty, pos, af, gd⟩ Q :=
  op_gtr hx hy (by rw [decide_eq_true h]; exact k)
theorem op_gtrF {t u : TypeId} {x y : Operand} {κ : IntKind} {p q : Int} (hx : ev L x = some (.int κ p)) (hy : ev L y = some (.int κ q)) (h : ¬ q < p) (k : Q (.bool false) V G) : Opr P n X L V G ⟨ds, .binOp .gtr t x y u, ty, pos, af, gd⟩ Q :=
  op_gtr hx hy (by rw [decide_eq_false h]; exact k)
theorem op_eqlF {t u : TypeId} {x y : Operand} {κ : IntKind} {p q : Int} (hx : ev L x = some (.int κ p)) (hy : ev L y = some (.int κ q)) (h : ¬ p = q) (k : Q (.bool false) V G) : Opr P n X L V G ⟨ds, .binOp .eql t x y u, ty, pos, af, gd⟩ Q :=
  op_eql hx hy (by rw [decide_eq_false h]; exact k)
theorem op_conv64 (T : Tabs P) {t u : TypeId} {x : Operand} {κ κ'' : IntKind} {p : Int} (hx : ev L x = some (.int κ p)) (ht : T.ik t = some κ'') (hu : T.ik u = some .i64) (h1 : -9223372036854775808 ≤ p) (h2 : p ≤ 9223372036854775807) (k : Q (.int .i64 p) V G) :
    Opr P n X L V G ⟨ds, .convert t u x, ty, pos, af, gd⟩ Q := op_convert T hx ht hu (by rw [wrap_i64_in h1 h2]; exact k)
end
end Fly
