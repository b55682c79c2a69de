/-
  A small logic of walks: judgements, operations, regions, loops, calls. No condition.
-/
import Derived.Test.YtdmomplfmfhoiaaGreatDoorFlyO
namespace Fly
open Go

def keys (G : Own) : Nat → Prop := fun r => r ∈ G.map (·.1)

/-- A call that may write the blocks of G0, and nothing else that was there. -/
def Fing (P : Program) (f : FuncId) (args : Array Value) (V : View) (G0 : Own) (Q : Value → View → Own → Prop) : Prop :=
  ∀ w, Seen V w → (∀ p ∈ G0, w.heap[p.1]? = some p.2) → (∀ p ∈ G0, V p.1 = none) → (G0.map (·.1)).Nodup →
    Calls P f args w fun e w' => ∃ v V' G', e = .returned v ∧ Holds ⟨keys G0, w, V, fun _ _ _ => False⟩ V' G' w' ∧ Q v V' G'

theorem Holds.callg {X : Cx} {V : View} {G0 G : Own} {w : World} (h : Holds X V (G0 ++ G) w) {Y : Cx} {V' : View} {G' : Own} {w' : World}
    (hw : Y.w0 = w) (hV : Y.V0 = V) (hM : Y.M = keys G0) (k : Holds Y V' G' w') : Holds X V' (G' ++ G) w' := by
  subst hw hV
  have hnd := h.nodup
  rw [List.map_append, List.nodup_append] at hnd
  have inG : ∀ p ∈ G, p ∈ G0 ++ G := fun p hp => List.mem_append.2 (.inr hp)
  have apart : ∀ p ∈ G, ¬ Y.M p.1 := fun p hp hm => by
    rw [hM] at hm
    exact hnd.2.2 p.1 hm p.1 (List.mem_map.2 ⟨p, hp, rfl⟩) rfl
  have given : ∀ r, Y.M r → ∃ o, (r, o) ∈ G0 := fun r hr => by
    rw [hM] at hr
    obtain ⟨p, hp, e⟩ := List.mem_map.1 hr
    exact ⟨p.2, by rw [← e]; exact hp⟩
  refine ⟨⟨k.ext.os.trans h.ext.os, k.ext.tape.trans h.ext.tape, k.ext.output.trans h.ext.output, Nat.le_trans h.ext.size k.ext.size, fun r hr hm => ?_⟩, k.view, fun p hp => ?_, fun p hp => ?_, ?_, h.sub.trans k.sub, fun r h0 hr => ?_⟩
  · rw [k.ext.block r (Nat.lt_of_lt_of_le hr h.ext.size) (fun hy => by
      obtain ⟨o, ho⟩ := given r hy
      rcases (h.free (r, o) (List.mem_append.2 (.inl ho))).1 with h1 | h1
      · exact absurd hr (Nat.not_lt.2 h1)
      · exact hm h1)]
    exact h.ext.block r hr hm
  · rcases List.mem_append.1 hp with hp | hp
    · exact k.own p hp
    · rw [k.ext.block p.1 (h.lt (inG p hp)) (apart p hp)]; exact h.own p (inG p hp)
  · rcases List.mem_append.1 hp with hp | hp
    · have := k.free p hp
      refine ⟨?_, this.2⟩
      rcases this.1 with h1 | h1
      · exact .inl (Nat.le_trans h.ext.size h1)
      · obtain ⟨o, ho⟩ := given _ h1
        exact (h.free (p.1, o) (List.mem_append.2 (.inl ho))).1
    · have h1 := h.free p (inG p hp)
      refine ⟨h1.1, ?_⟩
      cases e : V' p.1 with
      | none => rfl
      | some u => exact absurd (k.newer p.1 h1.2 (by simp [e])) (by
        have := h.lt (inG p hp)
        rintro (h2 | h2)
        · omega
        · exact apart p hp h2)
  · rw [List.map_append, List.nodup_append]
    refine ⟨k.nodup, hnd.2.1, fun a ha b hb e => ?_⟩
    obtain ⟨p, hp, rfl⟩ := List.mem_map.1 ha
    obtain ⟨q, hq, rfl⟩ := List.mem_map.1 hb
    rcases (k.free p hp).1 with h1 | h1
    · have h2 := h.lt (inG q hq)
      omega
    · rw [e] at h1; exact apart q hq h1
  · by_cases e : Y.V0 r = none
    · rcases k.newer r e hr with h2 | h2
      · exact .inl (Nat.le_trans h.ext.size h2)
      · obtain ⟨o, ho⟩ := given _ h2
        exact (h.free (r, o) (List.mem_append.2 (.inl ho))).1
    · exact h.newer r h0 e

def fing (P : Program) (fn : Func) (w : World) (V : View) (G0 : Own) (Q : Value → View → Own → Prop) : Exit → Act → World → Prop :=
  bodyPost P fn fun e w' => ∃ v V' G', e = .returned v ∧ Holds ⟨keys G0, w, V, fun _ _ _ => False⟩ V' G' w' ∧ Q v V' G'

section
variable {P : Program} {n : Nat} {X : Cx} {L : Lo} {V : View} {G : Own} {K : List KI} {Q : Value → View → Own → Prop}
variable {ty : TypeId} {pos : String} {af : Array Edge} {gd : Option (Nat × Bool)} {ds : Option Tmp}

theorem fing_enter {f : FuncId} {fn : Func} {c : Code} {args : List Value} {n : Nat} {G0 : Own}
    (hf : P.funcs[f]? = some fn) (hb : fn.body = some c) (hn : fn.ntmps = n) (hle : Nat.ble args.length n = true)
    (h : ∀ (X : Cx) (w : World), X.M = keys G0 → (∀ r, X.M r → r < X.w0.heap.size) → X.w0 = w → X.V0 = V → X.R = fing P fn w V G0 Q → WC P n X (argL 0 args) V G0 c []) : Fing P f args.toArray V G0 Q := by
  intro w hV hG hVn hnd
  refine calls_of_wp hf hb ?_
  have h1 := h ⟨keys G0, w, V, fing P fn w V G0 Q⟩ w rfl (fun r hr => by
    obtain ⟨p, hp, e⟩ := List.mem_map.1 hr
    have := (Array.getElem?_eq_some_iff.1 (hG p hp)).1
    rw [← e]; exact this) rfl rfl rfl
  refine h1 _ w ⟨rfl, ?_, fun t v ht => ?_⟩ ⟨Ext.refl _ _, hV, hG, fun p hp => ⟨.inr (List.mem_map.2 ⟨p, hp, rfl⟩), hVn p hp⟩, hnd, Sub.refl _, fun r h0 hr => absurd h0 hr⟩
  · have : args.length ≤ n := Nat.le_of_ble_eq_true hle
    simp [hn]; omega
  · have := (lk_argL args 0 t v ht).2
    simp only [Nat.sub_zero] at this
    have hlt : t < args.length := (List.getElem?_eq_some_iff.1 this).1
    rw [Array.getElem?_append_left (by simpa using hlt)]
    simpa using this
theorem fing_done {fn : Func} {w : World} {V0 : View} {G0 : Own} (hM : X.M = keys G0) (hw : X.w0 = w) (hV : X.V0 = V0) (hR : X.R = fing P fn w V0 G0 Q) {v : Value} {G' : Own}
    (hG : ∀ w', Holds X V G w' → Holds X V G' w') (hv : ∀ a w', Knows n L a → Holds X V G w' → (results fn a.tmps).run P w' = .ok v w') (hQ : Q v V G') :
    ∀ e, (e = .ret ∨ e = .normal) → St n X L V G fun a w => X.R e a w := by
  intro e he a w' ha hw'
  rw [hR]
  have h1 := hG w' hw'
  have hk : Holds ⟨keys G0, w, V0, fun _ _ _ => False⟩ V G' w' := by
    obtain ⟨M, w0, VV, RR⟩ := X
    simp only at hM hw hV
    subst hM hw hV
    exact ⟨h1.ext, h1.view, h1.own, h1.free, h1.nodup, h1.sub, h1.newer⟩
  rcases he with rfl | rfl <;> exact ⟨ha.defers, v, hv a w' ha hw', v, V, G', rfl, hk, hQ⟩
/-- The end of such a call: which blocks it hands back. -/
theorem fing_ret {fn : Func} {w : World} {V0 : View} {G0 : Own} (hM : X.M = keys G0) (hw : X.w0 = w) (hV : X.V0 = V0) (hR : X.R = fing P fn w V0 G0 Q) {v : Value} (G' : Own)
    (hG : G'.Sublist G) (hv : ∀ a w', Knows n L a → Holds X V G w' → (results fn a.tmps).run P w' = .ok v w') (hQ : Q v V G') : WE P n X L V G .ret K :=
  we_ret (fing_done hM hw hV hR (fun _ h => h.sublist hG) hv hQ .ret (.inl rfl))
theorem fing_end {fn : Func} {w : World} {V0 : View} {G0 : Own} (hM : X.M = keys G0) (hw : X.w0 = w) (hV : X.V0 = V0) (hR : X.R = fing P fn w V0 G0 Q) {v : Value} (G' : Own)
    (hG : G'.Sublist G) (hv : ∀ a w', Knows n L a → Holds X V G w' → (results fn a.tmps).run P w' = .ok v w') (hQ : Q v V G') : WE P n X L V G .normal [] :=
  we_end (fing_done hM hw hV hR (fun _ h => h.sublist hG) hv hQ .normal (.inr rfl))
theorem wc_perm {c : Code} {G' : Own} (hp : G.Perm G') (h : WC P n X L V G' c K) : WC P n X L V G c K := fun a w ha hw => h a w ha (hw.perm hp)
theorem wr_perm {all : Array Oper} {ops : List Oper} {G' : Own} (hp : G.Perm G') (h : WR P n X L V G' all ops K) : WR P n X L V G all ops K := fun a w ha hw => h a w ha (hw.perm hp)
theorem we_perm {e : Exit} {G' : Own} (hp : G.Perm G') (h : WE P n X L V G' e K) : WE P n X L V G e K := fun a w ha hw => h a w ha (hw.perm hp)

/-- A call of a function value: one that was made of a function, with what it caught. -/
theorem op_callg (T : Tabs P) {f : Nat} {c : Operand} {first cap : List Value} {xs : List Operand} {vs : List Value} {ts : Array TypeId} {G0 G1 : Own} {R : Value → View → Own → Prop}
    (hc : ev L c = some (.func (.func f) first.toArray cap.toArray)) (hx : evs L xs = some vs) (hg : T.go f = true)
    (hF : Fing P f (first ++ vs ++ cap).toArray V G0 R) (hp : G.Perm (G0 ++ G1)) (k : ∀ v V' G', Sub V V' → R v V' G' → Q v V' (G' ++ G1)) :
    Opr P n X L V G ⟨ds, .call { callee := .value c, args := xs.toArray, argTypes := ts }, ty, pos, af, gd⟩ Q := fun a ha w hw => by
  have hq := hw.perm hp
  refine .inr ⟨f, (first ++ vs ++ cap).toArray, w, ?_, ?_⟩
  · have hm := evs_map ha xs vs hx
    simp [execOp, resolve, Deferred.ofValue, ha.ev hc, invoke, goes (T.go_ok f hg), hm]
  · have hnd := hq.nodup
    rw [List.map_append, List.nodup_append] at hnd
    refine (hF w hw.seen (fun p hp => hq.own p (List.mem_append.2 (.inl hp))) (fun p hp => (hq.free p (List.mem_append.2 (.inl hp))).2) hnd.1).mono ?_
    rintro e w' ⟨v, V', G', rfl, hh, hr⟩
    exact ⟨v, V', G' ++ G1, rfl, k v V' G' hh.sub hr, hq.callg rfl rfl rfl hh⟩
/-- A function that is pure by its contract may be called by such a rule too. -/
theorem Rel.fing {f : FuncId} {args : List Value} {R : Value → View → Prop} (h : Rel P f args V R) : Fing P f args.toArray V [] fun v V' G' => G' = [] ∧ R v V' := by
  intro w hs _ _ _
  refine (h w hs).mono ?_
  rintro e w' ⟨v, V', G', rfl, hh, hr⟩
  refine ⟨v, V', G', rfl, ⟨⟨hh.ext.os, hh.ext.tape, hh.ext.output, hh.ext.size, fun k hk _ => hh.ext.block k hk (fun h => h)⟩, hh.view, hh.own, fun p hp => ⟨.inl ((hh.free p hp).1.resolve_right (fun h => h)), (hh.free p hp).2⟩, hh.nodup, hh.sub, fun r h0 h1 => .inl ((hh.newer r h0 h1).resolve_right (fun h => h))⟩, hr⟩
end
end Fly
