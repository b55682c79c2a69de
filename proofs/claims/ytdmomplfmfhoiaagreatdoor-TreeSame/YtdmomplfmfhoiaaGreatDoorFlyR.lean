/-
  A small logic of walks: judgements, operations, regions, loops, calls. No condition.
-/
import Derived.Test.YtdmomplfmfhoiaaGreatDoorFlyQ
namespace Fly
open Go
section
variable {P : Program} {n : Nat} {X : Cx} {L : Lo} {V : View} {G : Own} {K : List KI} {Q : Value → View → Own → Prop} {all : Array Oper} {ops : List Oper}
variable {ty : TypeId} {pos : String} {af : Array Edge} {gd : Option (Nat × Bool)} {ds : Option Tmp}
theorem op_lenT {t : TypeId} {x : Operand} {s : ByteArray} {ts : Array TypeId} (hx : ev L x = some (.string s)) (ht : ts[0]? = some t) (hu : P.underlying t = some .string)
    (k' : Q (.int .i64 (s.size : Int)) V G) : Opr P n X L V G ⟨ds, .call { callee := .builtin .len, args := #[x], argTypes := ts }, ty, pos, af, gd⟩ Q := by
  refine opr_run (fun a w ha => ?_) k'
  simp [execOp, resolve, invoke, builtin, Builtin.len_, ht, ha.ev hx, run_underlying hu, goInt]
theorem op_makeFunc {f : Nat} {xs ys : List Operand} {vs us : List Value} (hx : evs L xs = some vs) (hy : evs L ys = some us) (k' : Q (.func (.func f) vs.toArray us.toArray) V G) :
    Opr P n X L V G ⟨ds, .makeFunc (.func f) xs.toArray ys.toArray, ty, pos, af, gd⟩ Q := by
  refine opr_run (fun a w ha => ?_) k'
  have hm := evs_map ha xs vs hx
  have hn := evs_map ha ys us hy
  simp [execOp, Instr.makeFunc, hm, hn]
theorem res0 {fn : Func} (hr : fn.results = #[]) : ∀ a w', Knows n L a → Holds X V G w' → (results fn a.tmps).run P w' = .ok (.tuple #[]) w' :=
  res (rs := []) (vs := []) hr rfl (by simp)
/-- A call that only reads and hands back some number. -/
def IntR (V : View) (v : Value) (V' : View) : Prop := ∃ z : Int, v = .int .i64 z ∧ V' = V
theorem op_intR (T : Tabs P) {f : Nat} {xs : List Operand} {vs : List Value} {ts : Array TypeId} (hx : evs L xs = some vs) (hg : T.go f = true) (hc : Rel P f vs V (IntR V)) (k : ∀ z : Int, Q (.int .i64 z) V G) :
    Opr P n X L V G ⟨ds, .call { callee := .value (.func f), args := xs.toArray, argTypes := ts }, ty, pos, af, gd⟩ Q :=
  op_rel T hx hg hc (by rintro _ _ _ ⟨z, rfl, rfl⟩; exact k z)
end
theorem waddl (a b : Int) : IntKind.i64.wrap (IntKind.i64.wrap a + b) = IntKind.i64.wrap (a + b) := by
  simp only [IntKind.wrap_i64]; omega
theorem waddr (a b : Int) : IntKind.i64.wrap (a + IntKind.i64.wrap b) = IntKind.i64.wrap (a + b) := by
  simp only [IntKind.wrap_i64]; omega
/-- A number of things, as an integer of the machine's. -/
def Wn (m : Nat) : Int := IntKind.i64.wrap (m : Int)
theorem Wn_zero : Wn 0 = 0 := by decide
theorem Wn_add (a b : Nat) : IntKind.i64.wrap (Wn a + Wn b) = Wn (a + b) := by
  unfold Wn; rw [waddl, waddr]; congr 1
theorem Wn_add1 (a : Nat) : IntKind.i64.wrap (Wn a + 1) = Wn (a + 1) := by
  unfold Wn; rw [waddl]; congr 1
theorem Wn_1add (a : Nat) : IntKind.i64.wrap (1 + Wn a) = Wn (1 + a) := by
  unfold Wn; rw [waddr]; congr 1
theorem Wn_nadd (a b : Nat) : IntKind.i64.wrap ((a : Int) + Wn b) = Wn (a + b) := by
  unfold Wn; rw [waddr]; congr 1
theorem Wn_in {a : Nat} (h : a ≤ 9223372036854775807) : Wn a = (a : Int) := wrap_i64_in (by omega) (by omega)
section
variable {P : Program} {n : Nat} {X : Cx} {L : Lo} {V : View} {G : Own} {K : List KI} {Q : Value → View → Own → Prop}
variable {ty : TypeId} {pos : String} {af : Array Edge} {gd : Option (Nat × Bool)} {ds : Option Tmp}
theorem op_addWW {t u : TypeId} {x y : Operand} {a b : Nat} (hx : ev L x = some (.int .i64 (Wn a))) (hy : ev L y = some (.int .i64 (Wn b))) (k : Q (.int .i64 (Wn (a + b))) V G) : Opr P n X L V G ⟨ds, .binOp .add t x y u, ty, pos, af, gd⟩ Q :=
  op_add hx hy (by rw [Wn_add]; exact k)
theorem op_addW1 {t u : TypeId} {x y : Operand} {a : Nat} (hx : ev L x = some (.int .i64 (Wn a))) (hy : ev L y = some (.int .i64 1)) (k : Q (.int .i64 (Wn (a + 1))) V G) : Opr P n X L V G ⟨ds, .binOp .add t x y u, ty, pos, af, gd⟩ Q :=
  op_add hx hy (by rw [Wn_add1]; exact k)
theorem op_add1W {t u : TypeId} {x y : Operand} {a : Nat} (hx : ev L x = some (.int .i64 1)) (hy : ev L y = some (.int .i64 (Wn a))) (k : Q (.int .i64 (Wn (1 + a))) V G) : Opr P n X L V G ⟨ds, .binOp .add t x y u, ty, pos, af, gd⟩ Q :=
  op_add hx hy (by rw [Wn_1add]; exact k)
end
def psum {α : Type} (f : α → Nat) (l : List α) (i : Nat) : Nat := ((l.take i).map f).sum
theorem psum_zero {α : Type} (f : α → Nat) (l : List α) : psum f l 0 = 0 := rfl
theorem psum_succ {α : Type} {f : α → Nat} {l : List α} {i : Nat} {x : α} (h : l[i]? = some x) : psum f l (i + 1) = psum f l i + f x := by
  unfold psum
  rw [List.take_add_one, h]
  simp
theorem psum_all {α : Type} (f : α → Nat) (l : List α) {i : Nat} (h : l.length ≤ i) : psum f l i = (l.map f).sum := by
  unfold psum; rw [List.take_of_length_le h]
end Fly
