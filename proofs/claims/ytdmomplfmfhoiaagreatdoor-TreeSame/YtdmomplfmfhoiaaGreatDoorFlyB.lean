/-
  A small logic of walks: judgements, operations, regions, loops, calls. No condition.
-/
import Derived.Test.YtdmomplfmfhoiaaGreatDoorFlyA
namespace Fly
open Go

theorem Holds.drop {X : Cx} {V : View} {G : Own} {w : World} (h : Holds X V G w) : Holds X V [] w :=
  ⟨h.ext, h.view, fun _ hp => (by cases hp), fun _ hp => (by cases hp), List.nodup_nil, h.sub, h.newer⟩

theorem Holds.lt {X : Cx} {V : View} {G : Own} {w : World} (h : Holds X V G w) {p : Nat × Obj} (hp : p ∈ G) : p.1 < w.heap.size :=
  (Array.getElem?_eq_some_iff.1 (h.own p hp)).1
theorem Holds.vlt {X : Cx} {V : View} {G : Own} {w : World} (h : Holds X V G w) {r : Nat} (hr : V r ≠ none) : r < w.heap.size := by
  cases e : V r with
  | none => exact absurd e hr
  | some o => exact (Array.getElem?_eq_some_iff.1 (h.view r o e)).1

theorem heap_push_old (w : World) (o : Obj) {k : Nat} (h : k < w.heap.size) : (w.heap.push o)[k]? = w.heap[k]? := by
  rw [Array.getElem?_push, if_neg (by omega)]

/-- A new block, the call's own. -/
theorem Holds.alloc {X : Cx} {V : View} {G : Own} {w : World} (h : Holds X V G w) (o : Obj) : Holds X V ((w.heap.size, o) :: G) { w with heap := w.heap.push o } := by
  refine ⟨⟨h.ext.os, h.ext.tape, h.ext.output, by have := h.ext.size; simp; omega, fun k hk hm => ?_⟩, fun r u hr => ?_, ?_, ?_, ?_, h.sub, h.newer⟩
  · have := h.ext.size
    show (w.heap.push o)[k]? = _
    rw [heap_push_old _ _ (by omega)]; exact h.ext.block k hk hm
  · show (w.heap.push o)[r]? = _
    rw [heap_push_old _ _ (h.vlt (by simp [hr]))]; exact h.view r u hr
  · intro p hp
    rcases List.mem_cons.1 hp with rfl | hp
    · simp
    · show (w.heap.push o)[p.1]? = _
      rw [heap_push_old _ _ (h.lt hp)]; exact h.own p hp
  · intro p hp
    rcases List.mem_cons.1 hp with rfl | hp
    · refine ⟨.inl h.ext.size, ?_⟩
      cases e : V w.heap.size with
      | none => rfl
      | some u => exact absurd (h.vlt (r := w.heap.size) (by simp [e])) (by omega)
    · exact h.free p hp
  · simp only [List.map_cons, List.nodup_cons]
    refine ⟨fun hm => ?_, h.nodup⟩
    obtain ⟨p, hp, e⟩ := List.mem_map.1 hm
    have := h.lt hp
    omega

def addV (V : View) (b : Nat) (o : Obj) : View := fun r => if r = b then some o else V r
theorem Sub.addV {V : View} {b : Nat} {o : Obj} (h : V b = none) : Sub V (addV V b o) := fun r u hr => by
  unfold Fly.addV
  by_cases e : r = b
  · subst e; rw [h] at hr; cases hr
  · rw [if_neg e]; exact hr
@[simp] theorem addV_same (V : View) (b : Nat) (o : Obj) : addV V b o b = some o := by simp [addV]

/-- An own block (not one of those that were there and may be written) is not written any more: it may be read from now on. -/
theorem Holds.freeze {X : Cx} {V : View} {G : Own} {w : World} {b : Nat} {o : Obj} (h : Holds X V ((b, o) :: G) w) : Holds X (addV V b o) G w := by
  have hv := (h.free _ (List.mem_cons_self ..)).2
  have hn := List.nodup_cons.1 h.nodup
  refine ⟨h.ext, fun r u hr => ?_, fun p hp => h.own p (List.mem_cons_of_mem _ hp), fun p hp => ?_, hn.2, h.sub.trans (Sub.addV hv), fun r h0 hr => ?_⟩
  · unfold addV at hr
    by_cases e : r = b
    · rw [if_pos e] at hr; cases hr; subst e; exact h.own (r, o) (List.mem_cons_self ..)
    · rw [if_neg e] at hr; exact h.view r u hr
  · have h1 := h.free p (List.mem_cons_of_mem _ hp)
    refine ⟨h1.1, ?_⟩
    unfold addV
    rw [if_neg]; exact h1.2
    intro e
    exact hn.1 (List.mem_map.2 ⟨p, hp, e⟩)
  · unfold addV at hr
    by_cases e : r = b
    · subst e; exact (h.free _ (List.mem_cons_self ..)).1
    · rw [if_neg e] at hr; exact h.newer r h0 hr

/-! ### Finding and changing an own block -/
inductive Has : Own → Nat → Obj → Prop
  | here {G : Own} {b : Nat} {o : Obj} : Has ((b, o) :: G) b o
  | there {G : Own} {b : Nat} {o : Obj} {p : Nat × Obj} (h : Has G b o) : Has (p :: G) b o
theorem Has.mem {G : Own} {b : Nat} {o : Obj} (h : Has G b o) : (b, o) ∈ G := by
  induction h with
  | here => exact List.mem_cons_self ..
  | there _ ih => exact List.mem_cons_of_mem _ ih
inductive Upd : Own → Nat → Obj → Obj → Own → Prop
  | here {G : Own} {b : Nat} {o o' : Obj} : Upd ((b, o) :: G) b o o' ((b, o') :: G)
  | there {G G' : Own} {b : Nat} {o o' : Obj} {p : Nat × Obj} (h : Upd G b o o' G') : Upd (p :: G) b o o' (p :: G')
theorem Upd.has {G G' : Own} {b : Nat} {o o' : Obj} (h : Upd G b o o' G') : Has G b o := by
  induction h with
  | here => exact .here
  | there _ ih => exact .there ih
theorem Upd.keys {G G' : Own} {b : Nat} {o o' : Obj} (h : Upd G b o o' G') : G'.map (·.1) = G.map (·.1) := by
  induction h with
  | here => rfl
  | there _ ih => simp [ih]
theorem Upd.mem {G G' : Own} {b : Nat} {o o' : Obj} (h : Upd G b o o' G') {p : Nat × Obj} (hn : (G.map (·.1)).Nodup) (hp : p ∈ G') : p = (b, o') ∨ (p ∈ G ∧ p.1 ≠ b) := by
  induction h with
  | here =>
    rcases List.mem_cons.1 hp with rfl | hp
    · exact .inl rfl
    · exact .inr ⟨List.mem_cons_of_mem _ hp, fun e => (List.nodup_cons.1 hn).1 (List.mem_map.2 ⟨p, hp, e⟩)⟩
  | there h ih =>
    rcases List.mem_cons.1 hp with rfl | hp
    · exact .inr ⟨List.mem_cons_self .., fun e => (List.nodup_cons.1 hn).1 (List.mem_map.2 ⟨_, h.has.mem, e.symm⟩)⟩
    · rcases ih (List.nodup_cons.1 hn).2 hp with h | h
      · exact .inl h
      · exact .inr ⟨List.mem_cons_of_mem _ h.1, h.2⟩

theorem Holds.upd {X : Cx} {V : View} {G G' : Own} {w : World} {b : Nat} {o o' : Obj} (h : Holds X V G w) (hu : Upd G b o o' G') :
    Holds X V G' { w with heap := w.heap.setIfInBounds b o' } := by
  have hbm := hu.has.mem
  have hblt := h.lt hbm
  refine ⟨⟨h.ext.os, h.ext.tape, h.ext.output, by simpa using h.ext.size, fun k hk hm => ?_⟩, fun r u hr => ?_, fun p hp => ?_, fun p hp => ?_, by rw [hu.keys]; exact h.nodup, h.sub, h.newer⟩
  · show (w.heap.setIfInBounds b o')[k]? = _
    rw [Array.getElem?_setIfInBounds_ne]
    · exact h.ext.block k hk hm
    · rintro rfl
      rcases (h.free _ hbm).1 with h1 | h1
      · simp at h1; omega
      · exact hm h1
  · show (w.heap.setIfInBounds b o')[r]? = _
    rw [Array.getElem?_setIfInBounds_ne]
    · exact h.view r u hr
    · rintro rfl
      have := (h.free _ hbm).2
      simp [this] at hr
  · show (w.heap.setIfInBounds b o')[p.1]? = _
    rcases hu.mem h.nodup hp with rfl | ⟨hp, hne⟩
    · rw [Array.getElem?_setIfInBounds_self_of_lt hblt]
    · rw [Array.getElem?_setIfInBounds_ne (Ne.symm hne)]; exact h.own p hp
  · rcases hu.mem h.nodup hp with rfl | ⟨hp, _⟩
    · exact h.free (b, o) hbm
    · exact h.free p hp

/-- A call that keeps what lay there, and hands back what it saw and what it made. -/
theorem Holds.call {X : Cx} {V : View} {G : Own} {w : World} (h : Holds X V G w) {Y : Cx} {V' : View} {G' : Own} {w' : World}
    (hw : Y.w0 = w) (hV : Y.V0 = V) (hM : ∀ r, ¬ Y.M r) (k : Holds Y V' G' w') : Holds X V' (G' ++ G) w' := by
  subst hw hV
  have old : ∀ r, r < Y.w0.heap.size → w'.heap[r]? = Y.w0.heap[r]? := fun r hr => k.ext.block r hr (hM r)
  refine ⟨⟨k.ext.os.trans h.ext.os, k.ext.tape.trans h.ext.tape, k.ext.output.trans h.ext.output, Nat.le_trans h.ext.size k.ext.size, fun r hr hm => ?_⟩, k.view, fun p hp => ?_, fun p hp => ?_, ?_, h.sub.trans k.sub, fun r h0 hr => ?_⟩
  · rw [old r (Nat.lt_of_lt_of_le hr h.ext.size)]; exact h.ext.block r hr hm
  · rcases List.mem_append.1 hp with hp | hp
    · exact k.own p hp
    · rw [old _ (h.lt hp)]; exact h.own p hp
  · rcases List.mem_append.1 hp with hp | hp
    · have := k.free p hp
      exact ⟨.inl (Nat.le_trans h.ext.size (this.1.resolve_right (hM _))), this.2⟩
    · have h1 := h.free p hp
      refine ⟨h1.1, ?_⟩
      cases e : V' p.1 with
      | none => rfl
      | some u => exact absurd ((k.newer p.1 h1.2 (by simp [e])).resolve_right (hM _)) (by have := h.lt hp; omega)
  · rw [List.map_append, List.nodup_append]
    refine ⟨k.nodup, h.nodup, fun a ha b hb e => ?_⟩
    obtain ⟨p, hp, rfl⟩ := List.mem_map.1 ha
    obtain ⟨q, hq, rfl⟩ := List.mem_map.1 hb
    have h1 := (k.free p hp).1.resolve_right (hM _)
    have h2 := h.lt hq
    omega
  · by_cases e : Y.V0 r = none
    · exact .inl (Nat.le_trans h.ext.size ((k.newer r e hr).resolve_right (hM _)))
    · exact h.newer r h0 e

/-- THE CONTRACT OF A CALL that writes nothing that was there. -/
def Fine (P : Program) (f : FuncId) (args : Array Value) (V : View) (w : World) (Q : Value → View → Own → Prop) : Prop :=
  Calls P f args w fun e w' => ∃ v V' G', e = .returned v ∧ Holds ⟨fun _ => False, w, V, fun _ _ _ => False⟩ V' G' w' ∧ Q v V' G'

def Seen (V : View) (w : World) : Prop := ∀ r o, V r = some o → w.heap[r]? = some o
theorem Holds.seen {X : Cx} {V : View} {G : Own} {w : World} (h : Holds X V G w) : Seen V w := h.view

/-! ### A function from its first row to its last -/
def argL : Nat → List Value → Lo
  | _, [] => []
  | k, v :: vs => (k, v) :: argL (k + 1) vs
theorem lk_argL : ∀ (l : List Value) (k t : Nat) (v : Value), lk (argL k l) t = some v → k ≤ t ∧ l[t - k]? = some v
  | [], _, _, _, h => by simp [argL, lk] at h
  | x :: l, k, t, v, h => by
    simp only [argL, lk] at h
    cases hb : Nat.beq k t with
    | true =>
      have := Nat.eq_of_beq_eq_true hb
      subst this
      simp at h
      simp [h]
    | false =>
      rw [hb] at h
      simp only [cond_false] at h
      obtain ⟨h1, h2⟩ := lk_argL l (k + 1) t v h
      refine ⟨by omega, ?_⟩
      rw [show t - k = (t - (k + 1)) + 1 by omega]
      simpa using h2

def finR (P : Program) (fn : Func) (w : World) (V : View) (Q : Value → View → Own → Prop) : Exit → Act → World → Prop :=
  bodyPost P fn fun e w' => ∃ v V' G', e = .returned v ∧ Holds ⟨fun _ => False, w, V, fun _ _ _ => False⟩ V' G' w' ∧ Q v V' G'

theorem enter {P : Program} {f : FuncId} {fn : Func} {c : Code} {args : List Value} {n : Nat} {V : View} {w : World} {Q : Value → View → Own → Prop}
    (hf : P.funcs[f]? = some fn) (hb : fn.body = some c) (hn : fn.ntmps = n) (hle : Nat.ble args.length n = true) (hV : Seen V w)
    (h : ∀ X : Cx, X.M = (fun _ => False) → X.w0 = w → X.V0 = V → X.R = finR P fn w V Q → WC P n X (argL 0 args) V [] c []) : Fine P f args.toArray V w Q := by
  refine calls_of_wp hf hb ?_
  have h1 := h ⟨fun _ => False, w, V, finR P fn w V Q⟩ rfl rfl rfl rfl
  refine h1 _ w ⟨rfl, ?_, fun t v ht => ?_⟩ ⟨Ext.refl _ _, hV, fun _ hp => (by cases hp), fun _ hp => (by cases hp), List.nodup_nil, Sub.refl _, fun r h0 hr => absurd h0 hr⟩
  · have : args.length ≤ n := Nat.le_of_ble_eq_true hle
    simp [hn]; omega
  · have := (lk_argL args 0 t v ht).2
    simp only [Nat.sub_zero] at this
    have hlt : t < args.length := (List.getElem?_eq_some_iff.1 this).1
    rw [Array.getElem?_append_left (by simpa using hlt)]
    simpa using this

/-- One result variable reads so. -/
def Reads (P : Program) (X : Cx) (L : Lo) (V : View) (G : Own) : ResultVar → Value → Prop
  | .tmp t, v => lk L t = some v
  | .cell b t, v => ∃ p, lk L b = some (.pointer (some p)) ∧ ∀ w, Holds X V G w → (loadVar t p).run P w = .ok v w

theorem fin {P : Program} {n : Nat} {X : Cx} {L : Lo} {V : View} {G : Own} {fn : Func} {w : World} {V0 : View} {Q : Value → View → Own → Prop}
    (hM : X.M = (fun _ => False)) (hw : X.w0 = w) (hV : X.V0 = V0) (hR : X.R = finR P fn w V0 Q) {v : Value} {G' : Own}
    (hG : ∀ w', Holds X V G w' → Holds X V G' w')
    (hv : ∀ a w', Knows n L a → Holds X V G w' → (results fn a.tmps).run P w' = .ok v w') (hQ : Q v V G') :
    ∀ e, (e = .ret ∨ e = .normal) → St n X L V G fun a w => X.R e a w := by
  intro e he a w' ha hw'
  rw [hR]
  have h1 := hG w' hw'
  have hk : Holds ⟨fun _ => False, w, V0, fun _ _ _ => False⟩ V G' w' := by
    obtain ⟨M, w0, VV, RR⟩ := X
    simp only at hM hw hV
    subst hM hw hV
    exact ⟨h1.ext, h1.view, h1.own, h1.free, h1.nodup, h1.sub, h1.newer⟩
  rcases he with rfl | rfl <;> exact ⟨ha.defers, v, hv a w' ha hw', v, V, G', rfl, hk, hQ⟩

section
variable {P : Program} {n : Nat} {X : Cx} {L : Lo} {V : View} {G : Own} {fn : Func}
def rvSem (a : Act) (r : ResultVar) : Sem Value :=
  match r with
  | .tmp t => pure (a.tmps.getD t undef)
  | .cell b t => do loadVar t (← asAddr (a.tmps.getD b undef))
theorem Reads.run {r : ResultVar} {v : Value} (h : Reads P X L V G r v) {a : Act} {w : World} (ha : Knows n L a) (hw : Holds X V G w) :
    (rvSem a r).run P w = .ok v w := by
  cases r with
  | tmp t => simp [rvSem, ha.get t v h]
  | cell b t =>
    obtain ⟨p, h1, h2⟩ := h
    simp [rvSem, ha.get b _ h1, asAddr, h2 w hw]
theorem results_run {a : Act} {w : World} (ha : Knows n L a) (hw : Holds X V G w) : ∀ (rs : List ResultVar) (vs : List Value), rs.length = vs.length → (∀ p ∈ rs.zip vs, Reads P X L V G p.1 p.2) →
    (rs.mapM (rvSem a)).run P w = .ok vs w
  | [], [], _, _ => rfl
  | r :: rs, v :: vs, hl, h => by
    have h0 : Reads P X L V G r v := h (r, v) (by simp)
    have h1 := h0.run ha hw
    have h2 := results_run ha hw rs vs (by simpa using hl) (fun p hp => h p (by simp [hp]))
    rw [List.mapM_cons, Sem.run_bind, h1]
    simp only [Result.andThen, Sem.run_bind, h2]
    rfl
theorem res {rs : List ResultVar} {vs : List Value} (hr : fn.results = rs.toArray) (hl : rs.length = vs.length) (h : ∀ p ∈ rs.zip vs, Reads P X L V G p.1 p.2) :
    ∀ a w', Knows n L a → Holds X V G w' → (results fn a.tmps).run P w' = .ok (match vs with | [v] => v | vs => .tuple vs.toArray) w' := by
  intro a w ha hw
  have h1 := results_run ha hw rs vs hl h
  show (do let vs ← fn.results.mapM (rvSem a); pure (if h : vs.size = 1 then vs[0] else .tuple vs) : Sem Value).run P w = _
  rw [hr, List.mapM_toArray]
  simp only [map_eq_pure_bind, bind_assoc, pure_bind, Sem.run_bind, h1, Result.andThen]
  rw [Sem.run_pure]
  congr 1
  match vs with
  | [] => rfl
  | [v] => rfl
  | a :: b :: l => simp
theorem res1 {r : ResultVar} {v : Value} (hr : fn.results = #[r]) (h : Reads P X L V G r v) :
    ∀ a w', Knows n L a → Holds X V G w' → (results fn a.tmps).run P w' = .ok v w' :=
  res (rs := [r]) (vs := [v]) hr rfl (by simpa using h)
theorem res2 {r s : ResultVar} {v u : Value} (hr : fn.results = #[r, s]) (h : Reads P X L V G r v) (k : Reads P X L V G s u) :
    ∀ a w', Knows n L a → Holds X V G w' → (results fn a.tmps).run P w' = .ok (.tuple #[v, u]) w' :=
  res (rs := [r, s]) (vs := [v, u]) hr rfl (by simpa using ⟨h, k⟩)
theorem res3 {r s t : ResultVar} {v u x : Value} (hr : fn.results = #[r, s, t]) (h : Reads P X L V G r v) (k : Reads P X L V G s u) (j : Reads P X L V G t x) :
    ∀ a w', Knows n L a → Holds X V G w' → (results fn a.tmps).run P w' = .ok (.tuple #[v, u, x]) w' :=
  res (rs := [r, s, t]) (vs := [v, u, x]) hr rfl (by simpa using ⟨h, k, j⟩)
end
end Fly
