/-
  A small logic of walks: judgements, operations, regions, loops, calls. No condition.
-/
import Derived.Test.YtdmomplfmfhoiaaGreatDoorFlyD
namespace Fly
open Go
/-- A call that hands back v, whatever the world, and leaves what was there alone. -/
def Pure (P : Program) (f : FuncId) (args : List Value) (v : Value) : Prop :=
  ∀ V w, Seen V w → Fine P f args.toArray V w fun v' V' G' => v' = v ∧ V' = V ∧ G' = []
section
variable {P : Program} {n : Nat} {X : Cx} {L : Lo} {V : View} {G : Own} {K : List KI} {Q : Value → View → Own → Prop}
variable {ty : TypeId} {pos : String} {af : Array Edge} {gd : Option (Nat × Bool)} {ds : Option Tmp}
theorem op_pure (T : Tabs P) {f : Nat} {xs : List Operand} {vs : List Value} {v : Value} {ts : Array TypeId} (hx : evs L xs = some vs) (hg : T.go f = true) (hc : Pure P f vs v) (k : Q v V G) :
    Opr P n X L V G ⟨ds, .call { callee := .value (.func f), args := xs.toArray, argTypes := ts }, ty, pos, af, gd⟩ Q :=
  op_call T hx hg (fun w hw => hc V w hw) (by rintro _ _ _ ⟨rfl, rfl, rfl⟩; exact k)
/-- The end of such a call. -/
theorem pure_ret {fn : Func} {w : World} {V0 : View} {v : Value} (hM : X.M = (fun _ => False)) (hw : X.w0 = w) (hV : X.V0 = V0) (hR : X.R = finR P fn w V0 fun v' V' G' => v' = v ∧ V' = V0 ∧ G' = []) {u : Value}
    (hr : ∀ a w', Knows n L a → Holds X V G w' → (results fn a.tmps).run P w' = .ok u w') (he : u = v) : WE P n X L V G .ret K := by
  refine we_ret (fun a w' ha hh => ?_)
  have h1 : Holds X V0 [] w' := ⟨hh.ext, fun r o h => hh.view r o (hh.sub r o (by rw [hV]; exact h)), fun _ hp => (by cases hp), fun _ hp => (by cases hp), List.nodup_nil, fun r o h => by rw [hV] at h; exact h, fun r h0 h1 => by rw [hV] at h0; exact absurd h0 h1⟩
  rw [hR]
  subst he
  obtain ⟨M, w0, VV, RR⟩ := X
  simp only at hM hw hV
  subst hM hw hV
  exact ⟨ha.defers, u, hr a w' ha hh, u, VV, [], rfl, ⟨h1.ext, h1.view, h1.own, h1.free, h1.nodup, h1.sub, h1.newer⟩, rfl, rfl, rfl⟩
theorem pure_end {fn : Func} {w : World} {V0 : View} {v : Value} (hM : X.M = (fun _ => False)) (hw : X.w0 = w) (hV : X.V0 = V0) (hR : X.R = finR P fn w V0 fun v' V' G' => v' = v ∧ V' = V0 ∧ G' = []) {u : Value}
    (hr : ∀ a w', Knows n L a → Holds X V G w' → (results fn a.tmps).run P w' = .ok u w') (he : u = v) : WE P n X L V G .normal [] := by
  refine we_end (fun a w' ha hh => ?_)
  have h1 : Holds X V0 [] w' := ⟨hh.ext, fun r o h => hh.view r o (hh.sub r o (by rw [hV]; exact h)), fun _ hp => (by cases hp), fun _ hp => (by cases hp), List.nodup_nil, fun r o h => by rw [hV] at h; exact h, fun r h0 h1 => by rw [hV] at h0; exact absurd h0 h1⟩
  rw [hR]
  subst he
  obtain ⟨M, w0, VV, RR⟩ := X
  simp only at hM hw hV
  subst hM hw hV
  exact ⟨ha.defers, u, hr a w' ha hh, u, VV, [], rfl, ⟨h1.ext, h1.view, h1.own, h1.free, h1.nodup, h1.sub, h1.newer⟩, rfl, rfl, rfl⟩
theorem pure_enter {f : FuncId} {fn : Func} {c : Code} {args : List Value} {v : Value} {n : Nat} (hf : P.funcs[f]? = some fn) (hb : fn.body = some c) (hn : fn.ntmps = n) (hle : Nat.ble args.length n = true)
    (h : ∀ (X : Cx) (w : World) (V : View), X.M = (fun _ => False) → X.w0 = w → X.V0 = V → X.R = finR P fn w V (fun v' V' G' => v' = v ∧ V' = V ∧ G' = []) → WC P n X (argL 0 args) V [] c []) : Pure P f args v :=
  fun V w hV => enter hf hb hn hle hV fun X h1 h2 h3 h4 => h X w V h1 h2 h3 h4
end
end Fly
