/-
  A small logic of walks: judgements, operations, regions, loops, calls. No condition.
-/
import Derived.Test.YtdmomplfmfhoiaaGreatDoorFlyN
import Derived.Laws.Externs
import Derived.Laws.StructEq
namespace Fly
open Go
section
variable {P : Program} {n : Nat} {X : Cx} {L : Lo} {V : View} {G : Own} {K : List KI} {Q : Value → View → Own → Prop}
variable {ty : TypeId} {pos : String} {af : Array Edge} {gd : Option (Nat × Bool)} {ds : Option Tmp}
theorem op_max {x y : Operand} {κ : IntKind} {p q : Int} {ts : Array TypeId} (hx : ev L x = some (.int κ p)) (hy : ev L y = some (.int κ q)) (k : Q (.int κ (max p q)) V G) :
    Opr P n X L V G ⟨ds, .call { callee := .builtin .max, args := #[x, y], argTypes := ts }, ty, pos, af, gd⟩ Q := by
  refine opr_run (fun a w ha => ?_) k
  have e : (if q > p then q else p) = max p q := by rw [Int.max_def]; split <;> split <;> omega
  simp [execOp, resolve, invoke, builtin, Builtin.max_, Builtin.max2, ha.ev hx, ha.ev hy, e]
theorem op_min {x y : Operand} {κ : IntKind} {p q : Int} {ts : Array TypeId} (hx : ev L x = some (.int κ p)) (hy : ev L y = some (.int κ q)) (k : Q (.int κ (min p q)) V G) :
    Opr P n X L V G ⟨ds, .call { callee := .builtin .min, args := #[x, y], argTypes := ts }, ty, pos, af, gd⟩ Q := by
  refine opr_run (fun a w ha => ?_) k
  have e : (if q < p then q else p) = min p q := by rw [Int.min_def]; split <;> split <;> omega
  simp [execOp, resolve, invoke, builtin, Builtin.min_, Builtin.min2, ha.ev hx, ha.ev hy, e]
theorem op_extern {f : Nat} {xs : List Operand} {vs : List Value} {v : Value} {ts : Array TypeId} (hx : evs L xs = some vs) (h : ∀ w, (callFunc f vs.toArray).run P w = .ok (.value v) w) (k : Q v V G) :
    Opr P n X L V G ⟨ds, .call { callee := .value (.func f), args := xs.toArray, argTypes := ts }, ty, pos, af, gd⟩ Q := by
  refine opr_run (fun a w ha => ?_) k
  have hm := evs_map ha xs vs hx
  simp [execOp, resolve, Deferred.ofValue, Act.eval, invoke, hm, h w]
/-- Two values of a type held against one another, by what the program's own table makes of it. -/
theorem op_eqg {t u : TypeId} {x y : Operand} {vx vy : Value} {b : Bool} (hx : ev L x = some vx) (hy : ev L y = some vy) (hb : binOp .eql t vx vy = do pure (.bool (← Op.equal t vx vy))) (hg : ∀ w, (eqGuard .eql t x y vx vy).run P w = .ok () w)
    (h : ∀ w, (Op.equal t vx vy).run P w = .ok b w) (k : Q (.bool b) V G) : Opr P n X L V G ⟨ds, .binOp .eql t x y u, ty, pos, af, gd⟩ Q := by
  refine opr_run (fun a w ha => ?_) k
  simp only [execOp, ha.ev hx, ha.ev hy, Sem.run_bind, hg, Result.andThen, hb, h, Sem.run_pure]
theorem op_neg' {t u : TypeId} {x y : Operand} {vx vy : Value} {b : Bool} (hx : ev L x = some vx) (hy : ev L y = some vy) (hb : binOp .neq t vx vy = do pure (.bool (!(← Op.equal t vx vy)))) (hg : ∀ w, (eqGuard .neq t x y vx vy).run P w = .ok () w)
    (h : ∀ w, (Op.equal t vx vy).run P w = .ok b w) (k : Q (.bool (!b)) V G) : Opr P n X L V G ⟨ds, .binOp .neq t x y u, ty, pos, af, gd⟩ Q := by
  refine opr_run (fun a w ha => ?_) k
  simp only [execOp, ha.ev hx, ha.ev hy, Sem.run_bind, hg, Result.andThen, hb, h, Sem.run_pure]
theorem guard_agg {op : BinOp} {t : TypeId} {x y : Operand} {xs ys : Array Value} (hg : P.eqGuardType P.depth t = false) (w : World) : (eqGuard op t x y (.agg xs) (.agg ys)).run P w = .ok () w := by
  cases op <;> simp [eqGuard, hg]
theorem op_eqv {t u : TypeId} {x y : Operand} {xs ys : Array Value} {b : Bool} (hx : ev L x = some (.agg xs)) (hy : ev L y = some (.agg ys)) (hg : P.eqGuardType P.depth t = false) (h : ∀ w, (Op.equal t (.agg xs) (.agg ys)).run P w = .ok b w) (k : Q (.bool b) V G) :
    Opr P n X L V G ⟨ds, .binOp .eql t x y u, ty, pos, af, gd⟩ Q := op_eqg hx hy rfl (guard_agg hg) h k
theorem op_neqv {t u : TypeId} {x y : Operand} {xs ys : Array Value} {b : Bool} (hx : ev L x = some (.agg xs)) (hy : ev L y = some (.agg ys)) (hg : P.eqGuardType P.depth t = false) (h : ∀ w, (Op.equal t (.agg xs) (.agg ys)).run P w = .ok b w) (k : Q (.bool (!b)) V G) :
    Opr P n X L V G ⟨ds, .binOp .neq t x y u, ty, pos, af, gd⟩ Q := op_neg' hx hy rfl (guard_agg hg) h k
theorem equal_bool {t : TypeId} {p q : Bool} (hu : P.underlying t = some .bool) (w : World) : (Op.equal t (.bool p) (.bool q)).run P w = .ok (p == q) w := by
  show (Op.equalIn (9999 + 1) t (.bool p) (.bool q)).run P w = _
  unfold Op.equalIn
  rw [Sem.run_bind, run_underlying hu]
  rfl
theorem op_eqb {t u : TypeId} {x y : Operand} {p q : Bool} (hx : ev L x = some (.bool p)) (hy : ev L y = some (.bool q)) (hu : P.underlying t = some .bool) (k : Q (.bool (p == q)) V G) :
    Opr P n X L V G ⟨ds, .binOp .eql t x y u, ty, pos, af, gd⟩ Q := op_eqg hx hy rfl (fun w => by simp [eqGuard]) (equal_bool hu) k
theorem op_neqb {t u : TypeId} {x y : Operand} {p q : Bool} (hx : ev L x = some (.bool p)) (hy : ev L y = some (.bool q)) (hu : P.underlying t = some .bool) (k : Q (.bool (!(p == q))) V G) :
    Opr P n X L V G ⟨ds, .binOp .neq t x y u, ty, pos, af, gd⟩ Q := op_neg' hx hy rfl (fun w => by simp [eqGuard]) (equal_bool hu) k
/-- A struct of scalars: every field held against its fellow. -/
def eqOne : TypeDesc → Value → Value → Option Bool
  | .bool, .bool a, .bool b => some (a == b)
  | .int _, .int κ a, .int κ' b => if κ = κ' then some (decide (a = b)) else none
  | _, _, _ => none
def eqAll : List TypeDesc → List Value → List Value → Option Bool
  | [], [], [] => some true
  | t :: ts, x :: xs, y :: ys => match eqOne t x y, eqAll ts xs ys with
    | some a, some b => some (a && b)
    | _, _ => none
  | _, _, _ => none
theorem eqOne_run {d : Nat} {t : TypeId} {u : TypeDesc} (hu : P.underlying t = some u) {x y : Value} {b : Bool} (h : eqOne u x y = some b) (w : World) : (Op.equalIn (d + 1) t x y).run P w = .ok b w := by
  unfold Op.equalIn
  rw [Sem.run_bind, run_underlying hu]
  simp only [Result.andThen]
  unfold eqOne at h
  split at h
  · simp only [Option.some.injEq] at h; subst h; rfl
  · split at h
    · rename_i hk
      simp only [Option.some.injEq] at h; subst h; subst hk
      simp; rfl
    · cases h
  · cases h
def flatFs (P : Program) : Nat → List Field → Option (List TypeDesc)
  | _, [] => some []
  | k, f :: fs => if f.name != "_" && f.offset == k then
      match Ty P f.type, P.underlying f.type, flatFs P (k + 1) fs with
      | some (false, _), some u, some us => some (u :: us)
      | _, _, _ => none
    else none
def flatOf (P : Program) (t : TypeId) : Option (List TypeDesc) :=
  if P.eqGuardType P.depth t || P.stoodInHeld t then none else
  match P.underlying t with
  | some (.struct fs) => flatFs P 0 fs.toList
  | _ => none
theorem eqFields_flat {d : Nat} {w : World} {xs ys : List Value} : ∀ (fs : List Field) (k : Nat) (us : List TypeDesc) (b : Bool), flatFs P k fs = some us → eqAll us (xs.drop k) (ys.drop k) = some b →
    (Op.eqFields (d + 1) xs.toArray ys.toArray fs).run P w = .ok b w
  | [], k, us, b, hf, he => by
    simp only [flatFs, Option.some.injEq] at hf; subst hf
    have : b = true := by
      cases hx : xs.drop k <;> cases hy : ys.drop k <;> rw [hx, hy] at he <;> simp [eqAll] at he
      exact he
    subst this
    rfl
  | f :: fs, k, us, b, hf, he => by
    simp only [flatFs] at hf
    split at hf
    · rename_i hn
      simp only [Bool.and_eq_true, bne_iff_ne, beq_iff_eq] at hn
      obtain ⟨hn, ho⟩ := hn
      split at hf
      · rename_i kk u us' ht hu hr
        simp only [Option.some.injEq] at hf; subst hf
        cases hx : xs.drop k with
        | nil => rw [hx] at he; simp [eqAll] at he
        | cons x xr =>
          cases hy : ys.drop k with
          | nil => rw [hx, hy] at he; simp [eqAll] at he
          | cons y yr =>
            rw [hx, hy] at he
            simp only [eqAll] at he
            split at he
            · rename_i a c h1 h2
              simp only [Option.some.injEq] at he; subst he
              have hxk : xs[k]? = some x := by have := congrArg List.head? hx; simpa [List.head?_drop] using this
              have hyk : ys[k]? = some y := by have := congrArg List.head? hy; simpa [List.head?_drop] using this
              have hxr : xs.drop (k + 1) = xr := by have := congrArg List.tail hx; simpa [List.tail_drop] using this
              have hyr : ys.drop (k + 1) = yr := by have := congrArg List.tail hy; simpa [List.tail_drop] using this
              have ih := eqFields_flat (d := d) (w := w) (xs := xs) (ys := ys) fs (k + 1) us' c hr (by rw [hxr, hyr]; exact h2)
              have hp : ∀ (zs : List Value) (z : Value), zs[k]? = some z → (part f.type zs.toArray f.offset).run P w = .ok z w := fun zs z hz => by
                simp [part, (Ty_run ht w).1, ho, hz]
              simp only [Op.eqFields, ne_eq, hn, not_false_eq_true, if_true, Sem.run_bind, hp xs x hxk, hp ys y hyk, Result.andThen, eqOne_run hu h1, Sem.run_ite, Sem.run_pure]
              cases a with
              | true => simpa using ih
              | false => simp
            · cases he
      · cases hf
    · cases hf
theorem equal_flat {t : TypeId} {us : List TypeDesc} {xs ys : List Value} {b : Bool} (hf : flatOf P t = some us) (he : eqAll us xs ys = some b) : P.eqGuardType P.depth t = false ∧ ∀ w, (Op.equal t (.agg xs.toArray) (.agg ys.toArray)).run P w = .ok b w := by
  unfold flatOf at hf
  split at hf
  · cases hf
  · rename_i hg
    simp only [Bool.or_eq_true, not_or, Bool.not_eq_true] at hg
    split at hf
    · rename_i fs hu
      refine ⟨hg.1, fun w => ?_⟩
      have h1 : P.fieldsOf t = fs := by simp [Program.fieldsOf, hu]
      have := run_equalIn_struct (P := P) w (9998 + 1) t xs.toArray ys.toArray (by rw [h1]; exact hu) hg.2
      show (Op.equalIn (9998 + 1 + 1) t (.agg xs.toArray) (.agg ys.toArray)).run P w = _
      rw [this, h1]
      exact eqFields_flat fs.toList 0 us b hf (by simpa using he)
    · cases hf
theorem op_eqF {t u : TypeId} {x y : Operand} {us : List TypeDesc} {xs ys : List Value} {b : Bool} (hx : ev L x = some (.agg xs.toArray)) (hy : ev L y = some (.agg ys.toArray)) (hf : flatOf P t = some us) (he : eqAll us xs ys = some b) (k : Q (.bool b) V G) :
    Opr P n X L V G ⟨ds, .binOp .eql t x y u, ty, pos, af, gd⟩ Q := op_eqv hx hy (equal_flat hf he).1 (equal_flat hf he).2 k
theorem op_neqF {t u : TypeId} {x y : Operand} {us : List TypeDesc} {xs ys : List Value} {b : Bool} (hx : ev L x = some (.agg xs.toArray)) (hy : ev L y = some (.agg ys.toArray)) (hf : flatOf P t = some us) (he : eqAll us xs ys = some b) (k : Q (.bool (!b)) V G) :
    Opr P n X L V G ⟨ds, .binOp .neq t x y u, ty, pos, af, gd⟩ Q := op_neqv hx hy (equal_flat hf he).1 (equal_flat hf he).2 k
/-- A byte of a text. -/
theorem op_indexS {t : TypeId} {x y : Operand} {s : ByteArray} {κ : IntKind} {j : Int} {c : UInt8} (hx : ev L x = some (.string s)) (hy : ev L y = some (.int κ j)) (hu : P.underlying t = some .string) (h0 : 0 ≤ j) (hc : s[j.toNat]? = some c) (k : Q (.int .u8 (c.toNat : Int)) V G) :
    Opr P n X L V G ⟨ds, .index t x y, ty, pos, af, gd⟩ Q :=
  opr_run (fun a w ha => by simp [execOp, ha.ev hx, ha.ev hy, Instr.index, asIntOf, run_underlying hu, h0, hc]) k
end
end Fly
