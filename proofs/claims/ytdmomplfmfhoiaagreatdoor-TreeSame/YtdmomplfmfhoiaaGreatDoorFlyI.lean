/-
  A small logic of walks: judgements, operations, regions, loops, calls. No condition.
-/
import Derived.Test.YtdmomplfmfhoiaaGreatDoorFlyH
namespace Fly
open Go
/-- A slice just made. -/
def sliceR (m : Nat) (l : List Value) (e : TypeId) (v : Value) (V : View) : Prop := ∃ b, v = .slice (some ⟨b, 0, none⟩) m m ∧ V b = some (.cells l.toArray e (0, 0))
theorem sliceR_mono {m : Nat} {l : List Value} {e : TypeId} : ∀ v V V', Sub V V' → sliceR m l e v V → sliceR m l e v V' := fun _ _ _ hs ⟨b, h1, h2⟩ => ⟨b, h1, hs _ _ h2⟩
/-- A block just made, its own. -/
def newY (z : List Value) (e : TypeId) : YT := fun v E _ => ∃ b, v = .pointer (some ⟨b, 0, none⟩) ∧ E = [(b, .cells z.toArray e (0, 0))]
theorem newY_mono (z : List Value) (e : TypeId) : Mono (newY z e) := fun _ _ _ _ _ h => h
theorem Has.app {F G : Own} {b : Nat} {o : Obj} (h : Has G b o) : Has (F ++ G) b o := by
  induction F with
  | nil => exact h
  | cons p F ih => exact .there ih
section
variable {P : Program} {n : Nat} {X : Cx} {L : Lo} {V V' : View} {G G' : Own} {K : List KI} {Q : Value → View → Own → Prop} {KL : Lo → Prop} {KE : Lo → Own → Prop} {A : List (Tmp × YT)} {l all ops : List Oper} {Ys : List YT} {E : Own}
variable {op : Op} {ty : TypeId} {pos : String} {af : Array Edge} {gd : Option (Nat × Bool)} {ds : Option Tmp} {d : Tmp}
theorem owe_nil (h : KL L) : Owe V' KL [] L := h
theorem owe_fix {c : Value} (h : Owe V' KL A ((d, c) :: L)) : Owe V' KL ((d, fixY c) :: A) L := by rintro _ _ ⟨rfl, _⟩; exact h
theorem owe_rel {R : Value → View → Prop} (h : ∀ v, R v V' → Owe V' KL A ((d, v) :: L)) : Owe V' KL ((d, relY R) :: A) L := fun v _ hr => h v hr.1
theorem owe_opt {t : Bool} {c : Value} (h1 : t = true → Owe V' KL A ((d, c) :: L)) (h0 : t = false → Owe V' KL A ((d, undef) :: L)) : Owe V' KL ((d, optY t c) :: A) L := by
  rintro v _ ⟨h2, h3, _⟩
  cases t with
  | true => rw [h2 rfl]; exact h1 rfl
  | false => rw [h3 rfl]; exact h0 rfl
theorem one_plain {y : YT} (h : Opr P n X L V' G' ⟨ds, op, ty, pos, af, none⟩ fun v V'' G'' => Sub V' V'' ∧ ∃ E, G''.Perm (E ++ G') ∧ y v E V'') : One P n X V' G' l ⟨ds, op, ty, pos, af, none⟩ y L := h
theorem one_guard {y : YT} {g d : Nat} {b t : Bool} (hd : (l[g]?).bind (·.dst) = some d) (ht : lk L d = some (.bool t)) (h : t = b → Opr P n X L V' G' ⟨ds, op, ty, pos, af, some (g, b)⟩ fun v V'' G'' => Sub V' V'' ∧ ∃ E, G''.Perm (E ++ G') ∧ y v E V'') (h0 : t = !b → y undef [] V') :
    One P n X V' G' l ⟨ds, op, ty, pos, af, some (g, b)⟩ y L := ⟨d, t, hd, ht, h, h0⟩
theorem y_fix {c : Value} : Sub V' V' ∧ ∃ E, G'.Perm (E ++ G') ∧ fixY c c E V' := ⟨Sub.refl _, [], List.Perm.refl _, rfl, rfl⟩
theorem y_opt {c : Value} {t : Bool} (h : t = true) : Sub V' V' ∧ ∃ E, G'.Perm (E ++ G') ∧ optY t c c E V' := ⟨Sub.refl _, [], List.Perm.refl _, fun _ => rfl, fun e => (by rw [h] at e; cases e), rfl⟩
theorem y_rel {V'' : View} {R : Value → View → Prop} {v : Value} (hs : Sub V' V'') (h : R v V'') : Sub V' V'' ∧ ∃ E, G'.Perm (E ++ G') ∧ relY R v E V'' := ⟨hs, [], List.Perm.refl _, h, rfl⟩
theorem y_new {z : List Value} {e : TypeId} {b : Nat} : Sub V' V' ∧ ∃ E, List.Perm ((b, Obj.cells z.toArray e (0, 0)) :: G') (E ++ G') ∧ newY z e (.pointer (some ⟨b, 0, none⟩)) E V' := ⟨Sub.refl _, _, List.Perm.refl ([_] ++ G'), b, rfl, rfl⟩
theorem finl_fix {c : Value} (h : FinL V' KE l Ys ((d, c) :: L) E) : FinL V' KE (⟨some d, op, ty, pos, af, gd⟩ :: l) (fixY c :: Ys) L E := by rintro _ _ ⟨rfl, rfl⟩; simpa using h
theorem finl_rel {R : Value → View → Prop} (h : ∀ v, R v V' → FinL V' KE l Ys ((d, v) :: L) E) : FinL V' KE (⟨some d, op, ty, pos, af, gd⟩ :: l) (relY R :: Ys) L E := by rintro v _ ⟨hr, rfl⟩; simpa using h v hr
theorem finl_opt {t : Bool} {c : Value} (h1 : t = true → FinL V' KE l Ys ((d, c) :: L) E) (h0 : t = false → FinL V' KE l Ys ((d, undef) :: L) E) : FinL V' KE (⟨some d, op, ty, pos, af, gd⟩ :: l) (optY t c :: Ys) L E := by
  rintro v _ ⟨h2, h3, rfl⟩
  cases t with
  | true => rw [h2 rfl]; simpa using h1 rfl
  | false => rw [h3 rfl]; simpa using h0 rfl
theorem finl_new {z : List Value} {e : TypeId} (h : ∀ b, FinL V' KE l Ys ((d, .pointer (some ⟨b, 0, none⟩)) :: L) (E ++ [(b, .cells z.toArray e (0, 0))])) : FinL V' KE (⟨some d, op, ty, pos, af, gd⟩ :: l) (newY z e :: Ys) L E := by rintro _ _ ⟨b, rfl, rfl⟩; exact h b
theorem finl_end {al : Array Oper} (h : WR P n X L V' G al ops K) : FinL V' (fun L' E => WR P n X L' V' (E ++ G) al ops K) [] [] L [] := h
theorem finl_end1 {al : Array Oper} {p : Nat × Obj} (h : WR P n X L V' (p :: G) al ops K) : FinL V' (fun L' E => WR P n X L' V' (E ++ G) al ops K) [] [] L ([] ++ [p]) := h
theorem y_slice {m : Nat} {r : List Value} {e : TypeId} {b : Nat} (h : V' b = none) : Sub V' (addV V' b (.cells r.toArray e (0, 0))) ∧ ∃ E, G'.Perm (E ++ G') ∧ relY (sliceR m r e) (.slice (some ⟨b, 0, none⟩) m m) E (addV V' b (.cells r.toArray e (0, 0))) :=
  ⟨Sub.addV h, [], List.Perm.refl _, ⟨b, rfl, by simp⟩, rfl⟩
end
end Fly
