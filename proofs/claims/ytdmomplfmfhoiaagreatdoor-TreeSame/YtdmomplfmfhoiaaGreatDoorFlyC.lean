/-
  A small logic of walks: judgements, operations, regions, loops, calls. No condition.
-/
import Derived.Test.YtdmomplfmfhoiaaGreatDoorFlyB
import Derived.Laws.Bits64
import Derived.Laws.BitsLemmas
namespace Fly
open Go

/-- What is asked of the program's tables. -/
def Ty (P : Program) (t : TypeId) : Option (Bool × Nat) :=
  match P.info? t, P.underlying t with
  | some i, some d => some (match d with | .struct _ | .array _ _ => true | _ => false, i.size)
  | _, _ => none
def Ik (P : Program) (t : TypeId) : Option IntKind :=
  match P.underlying t with
  | some (.int k) => some k
  | _ => none
/-- A field: its place, its type, whether it is of several cells, how many. -/
def Fo (P : Program) (t f : Nat) : Option (Nat × Bool × Nat) :=
  match P.underlying t with
  | some (.struct fs) => match fs[f]? with
    | some x => match Ty P x.type with
      | some (g, k) => if k = 0 then none else some (x.offset, g, k)
      | none => none
    | none => none
  | _ => none
def El (P : Program) (t : TypeId) : Option (TypeId × Nat) :=
  match P.underlying t with
  | some (.slice e) => match Ty P e with
    | some (_, k) => some (e, k)
    | none => none
  | _ => none
def Ze (P : Program) (t : TypeId) : Option (List Value) :=
  match P.info? t with
  | some i => i.zero.map fun z => z.cells.toList
  | none => none
def goesB (P : Program) (f : FuncId) : Bool :=
  match P.funcs[f]? with
  | some fn => !(fn.name == "runtime.NumGoroutine") && fn.body.isSome
  | none => false

structure Tabs (P : Program) where
  ty : Nat → Option (Bool × Nat)
  ty_ok : ∀ t r, ty t = some r → Ty P t = some r
  ik : Nat → Option IntKind
  ik_ok : ∀ t r, ik t = some r → Ik P t = some r
  fo : Nat → Nat → Option (Nat × Bool × Nat)
  fo_ok : ∀ t f r, fo t f = some r → Fo P t f = some r
  el : Nat → Option (TypeId × Nat)
  el_ok : ∀ t r, el t = some r → El P t = some r
  ze : Nat → Option (List Value)
  ze_ok : ∀ t r, ze t = some r → Ze P t = some r
  go : Nat → Bool
  go_ok : ∀ f, go f = true → goesB P f = true

section
variable {P : Program} {n : Nat} {X : Cx} {L : Lo} {V : View} {G : Own} {K : List KI} {all : Array Oper} {ops : List Oper} {Q : Value → View → Own → Prop}
variable {ty : TypeId} {pos : String} {af : Array Edge} {gd : Option (Nat × Bool)} {ds : Option Tmp}

theorem w_cons {d : Tmp} {op : Op} (hd : Nat.blt d n = true)
    (h : Opr P n X L V G ⟨some d, op, ty, pos, af, none⟩ fun v V' G' => WR P n X ((d, v) :: L) V' G' all ops K) : WR P n X L V G all (⟨some d, op, ty, pos, af, none⟩ :: ops) K :=
  wr_cons rfl hd h
theorem w_cons0 {op : Op} (h : Opr P n X L V G ⟨none, op, ty, pos, af, none⟩ fun _ V' G' => WR P n X L V' G' all ops K) : WR P n X L V G all (⟨none, op, ty, pos, af, none⟩ :: ops) K :=
  wr_cons rfl rfl h
theorem w_yes {d : Tmp} {op : Op} {j : Nat} {b : Bool} {e : Nat} (hj : (all[j]?).bind (·.dst) = some e) (hb : lk L e = some (.bool b)) (hd : Nat.blt d n = true)
    (h : Opr P n X L V G ⟨some d, op, ty, pos, af, some (j, b)⟩ fun v V' G' => WR P n X ((d, v) :: L) V' G' all ops K) : WR P n X L V G all (⟨some d, op, ty, pos, af, some (j, b)⟩ :: ops) K :=
  wr_yes rfl hj hb hd h
theorem w_no {d : Tmp} {op : Op} {j : Nat} {b b' : Bool} {e : Nat} (hj : (all[j]?).bind (·.dst) = some e) (hb : lk L e = some (.bool b')) (hne : b' = !b) (hd : Nat.blt d n = true)
    (h : WR P n X ((d, undef) :: L) V G all ops K) : WR P n X L V G all (⟨some d, op, ty, pos, af, some (j, b)⟩ :: ops) K := by
  subst hne
  exact wr_no rfl hj hb hd h
theorem Knows.shadow {L : Lo} {a : Act} {d : Nat} {v : Value} (h : Knows n L a) (hv : lk L d = some v) : Knows n ((d, v) :: L) a := by
  refine ⟨h.defers, h.size, fun t u ht => ?_⟩
  simp only [lk] at ht
  cases hb : Nat.beq d t with
  | true => rw [hb] at ht; have := Nat.eq_of_beq_eq_true hb; subst this; simp at ht; subst ht; exact h.get _ _ hv
  | false => rw [hb] at ht; exact h.get t u ht
/-- The guard's Bool is parted. -/
theorem w_split {d : Option Tmp} {op : Op} {j : Nat} {b t : Bool} {e : Nat} (hb : lk L e = some (.bool t))
    (ht : t = true → WR P n X ((e, .bool true) :: L) V G all (⟨d, op, ty, pos, af, some (j, b)⟩ :: ops) K)
    (hf : t = false → WR P n X ((e, .bool false) :: L) V G all (⟨d, op, ty, pos, af, some (j, b)⟩ :: ops) K) : WR P n X L V G all (⟨d, op, ty, pos, af, some (j, b)⟩ :: ops) K := by
  intro a w ha hw
  cases t with
  | true => exact ht rfl a w (ha.shadow hb) hw
  | false => exact hf rfl a w (ha.shadow hb) hw
theorem wc_if {c : Operand} {x y : Code} {p : Prop} [Decidable p] (hc : ev L c = some (.bool (decide p))) (ht : p → WC P n X L V G x K) (hf : ¬ p → WC P n X L V G y K) :
    WC P n X L V G (.cond c x y) K := wc_cond hc (fun e => ht (of_decide_eq_true e)) (fun e => hf (of_decide_eq_false e))
theorem wc_ifn {c : Operand} {x y : Code} {p : Prop} [Decidable p] (hc : ev L c = some (.bool (!decide p))) (ht : ¬ p → WC P n X L V G x K) (hf : p → WC P n X L V G y K) :
    WC P n X L V G (.cond c x y) K := wc_cond hc (fun e => ht (by simpa using e)) (fun e => hf (by simpa using e))

theorem opr_run {op : Op} {v : Value} (h : ∀ a w, Knows n L a → (execOp a.eval ⟨ds, op, ty, pos, af, gd⟩).run P w = .ok (.value v) w) (k : Q v V G) :
    Opr P n X L V G ⟨ds, op, ty, pos, af, gd⟩ Q := fun a ha w hw => .inl ⟨v, w, V, G, .inl (h a w ha), k, hw⟩

theorem op_move {x : Operand} {v : Value} (h : ev L x = some v) (k : Q v V G) : Opr P n X L V G ⟨ds, .move x, ty, pos, af, gd⟩ Q :=
  opr_run (fun a w ha => by simp [execOp, ha.ev h]) k
theorem op_assign {x : Operand} {v : Value} (h : ev L x = some v) (k : Q v V G) : Opr P n X L V G ⟨ds, .assign x, ty, pos, af, gd⟩ Q :=
  opr_run (fun a w ha => by simp [execOp, ha.ev h]) k

theorem bin_int {op : BinOp} {t u : TypeId} {x y : Operand} {κ : IntKind} {p q : Int} {v : Value} (hx : ev L x = some (.int κ p)) (hy : ev L y = some (.int κ q))
    (h : ∀ w, (binOp op t (.int κ p) (.int κ q)).run P w = .ok v w) (k : Q v V G) : Opr P n X L V G ⟨ds, .binOp op t x y u, ty, pos, af, gd⟩ Q := by
  refine opr_run (fun a w ha => ?_) k
  have h0 : (eqGuard op t x y (.int κ p) (.int κ q)).run P w = .ok () w := by
    cases op <;> simp [eqGuard]
  simp only [execOp, ha.ev hx, ha.ev hy, Sem.run_bind, h0, Result.andThen, h w]
  rfl
theorem op_add {t u : TypeId} {x y : Operand} {κ : IntKind} {p q : Int} (hx : ev L x = some (.int κ p)) (hy : ev L y = some (.int κ q))
    (k : Q (.int κ (κ.wrap (p + q))) V G) : Opr P n X L V G ⟨ds, .binOp .add t x y u, ty, pos, af, gd⟩ Q :=
  bin_int hx hy (fun w => by simp [binOp, Op.intArith]) k
theorem op_sub {t u : TypeId} {x y : Operand} {κ : IntKind} {p q : Int} (hx : ev L x = some (.int κ p)) (hy : ev L y = some (.int κ q))
    (k : Q (.int κ (κ.wrap (p - q))) V G) : Opr P n X L V G ⟨ds, .binOp .sub t x y u, ty, pos, af, gd⟩ Q :=
  bin_int hx hy (fun w => by simp [binOp, Op.intArith]) k
theorem op_mul {t u : TypeId} {x y : Operand} {κ : IntKind} {p q : Int} (hx : ev L x = some (.int κ p)) (hy : ev L y = some (.int κ q))
    (k : Q (.int κ (κ.wrap (p * q))) V G) : Opr P n X L V G ⟨ds, .binOp .mul t x y u, ty, pos, af, gd⟩ Q :=
  bin_int hx hy (fun w => by simp [binOp, Op.intArith]) k
theorem wrap_i64_in {x : Int} (h1 : -9223372036854775808 ≤ x) (h2 : x ≤ 9223372036854775807) : IntKind.i64.wrap x = x := by
  rw [IntKind.wrap_i64]; omega
theorem wrap_u64_in {x : Int} (h1 : 0 ≤ x) (h2 : x < 18446744073709551616) : IntKind.u64.wrap x = x := by
  simp only [IntKind.wrap, IntKind.bits, IntKind.signed]; simp; omega
theorem wrap_u32_in {x : Int} (h1 : 0 ≤ x) (h2 : x < 4294967296) : IntKind.u32.wrap x = x := by
  simp only [IntKind.wrap, IntKind.bits, IntKind.signed]; simp; omega
theorem wrap_u8_in {x : Int} (h1 : 0 ≤ x) (h2 : x < 256) : IntKind.u8.wrap x = x := by
  simp only [IntKind.wrap, IntKind.bits, IntKind.signed]; simp; omega
theorem op_addi {t u : TypeId} {x y : Operand} {p q : Int} (hx : ev L x = some (.int .i64 p)) (hy : ev L y = some (.int .i64 q)) (h1 : -9223372036854775808 ≤ p + q) (h2 : p + q ≤ 9223372036854775807)
    (k : Q (.int .i64 (p + q)) V G) : Opr P n X L V G ⟨ds, .binOp .add t x y u, ty, pos, af, gd⟩ Q :=
  op_add hx hy (by rw [wrap_i64_in h1 h2]; exact k)
theorem op_subi {t u : TypeId} {x y : Operand} {p q : Int} (hx : ev L x = some (.int .i64 p)) (hy : ev L y = some (.int .i64 q)) (h1 : -9223372036854775808 ≤ p - q) (h2 : p - q ≤ 9223372036854775807)
    (k : Q (.int .i64 (p - q)) V G) : Opr P n X L V G ⟨ds, .binOp .sub t x y u, ty, pos, af, gd⟩ Q :=
  op_sub hx hy (by rw [wrap_i64_in h1 h2]; exact k)
theorem op_muli {t u : TypeId} {x y : Operand} {p q : Int} (hx : ev L x = some (.int .i64 p)) (hy : ev L y = some (.int .i64 q)) (h1 : -9223372036854775808 ≤ p * q) (h2 : p * q ≤ 9223372036854775807)
    (k : Q (.int .i64 (p * q)) V G) : Opr P n X L V G ⟨ds, .binOp .mul t x y u, ty, pos, af, gd⟩ Q :=
  op_mul hx hy (by rw [wrap_i64_in h1 h2]; exact k)
theorem op_quo {t u : TypeId} {x y : Operand} {κ : IntKind} {p q : Int} (hx : ev L x = some (.int κ p)) (hy : ev L y = some (.int κ q)) (h0 : q ≠ 0)
    (k : Q (.int κ (κ.wrap (p.tdiv q))) V G) : Opr P n X L V G ⟨ds, .binOp .quo t x y u, ty, pos, af, gd⟩ Q :=
  bin_int hx hy (fun w => by simp [binOp, Op.intDiv, h0]) k
theorem op_rem {t u : TypeId} {x y : Operand} {κ : IntKind} {p q : Int} (hx : ev L x = some (.int κ p)) (hy : ev L y = some (.int κ q)) (h0 : q ≠ 0)
    (k : Q (.int κ (p.tmod q)) V G) : Opr P n X L V G ⟨ds, .binOp .rem t x y u, ty, pos, af, gd⟩ Q :=
  bin_int hx hy (fun w => by simp [binOp, Op.intDiv, h0]) k
/-- The bits of a word. -/
def bitv (op : BinOp) (κ : IntKind) (p q : Int) : Int :=
  κ.wrap (match op with
    | .and => (BitVec.ofInt κ.bits p &&& BitVec.ofInt κ.bits q).toNat
    | .or => (BitVec.ofInt κ.bits p ||| BitVec.ofInt κ.bits q).toNat
    | .xor => (BitVec.ofInt κ.bits p ^^^ BitVec.ofInt κ.bits q).toNat
    | _ => (BitVec.ofInt κ.bits p &&& ~~~(BitVec.ofInt κ.bits q)).toNat : Nat)
theorem op_and {t u : TypeId} {x y : Operand} {κ : IntKind} {p q : Int} (hx : ev L x = some (.int κ p)) (hy : ev L y = some (.int κ q))
    (k : Q (.int κ (bitv .and κ p q)) V G) : Opr P n X L V G ⟨ds, .binOp .and t x y u, ty, pos, af, gd⟩ Q :=
  bin_int hx hy (fun w => by simp [binOp, Op.intBits, bitv]) k
theorem op_or {t u : TypeId} {x y : Operand} {κ : IntKind} {p q : Int} (hx : ev L x = some (.int κ p)) (hy : ev L y = some (.int κ q))
    (k : Q (.int κ (bitv .or κ p q)) V G) : Opr P n X L V G ⟨ds, .binOp .or t x y u, ty, pos, af, gd⟩ Q :=
  bin_int hx hy (fun w => by simp [binOp, Op.intBits, bitv]) k
theorem op_xor {t u : TypeId} {x y : Operand} {κ : IntKind} {p q : Int} (hx : ev L x = some (.int κ p)) (hy : ev L y = some (.int κ q))
    (k : Q (.int κ (bitv .xor κ p q)) V G) : Opr P n X L V G ⟨ds, .binOp .xor t x y u, ty, pos, af, gd⟩ Q :=
  bin_int hx hy (fun w => by simp [binOp, Op.intBits, bitv]) k
theorem op_andNot {t u : TypeId} {x y : Operand} {κ : IntKind} {p q : Int} (hx : ev L x = some (.int κ p)) (hy : ev L y = some (.int κ q))
    (k : Q (.int κ (bitv .andNot κ p q)) V G) : Opr P n X L V G ⟨ds, .binOp .andNot t x y u, ty, pos, af, gd⟩ Q :=
  bin_int hx hy (fun w => by simp [binOp, Op.intBits, bitv]) k
theorem op_eql {t u : TypeId} {x y : Operand} {κ : IntKind} {p q : Int} (hx : ev L x = some (.int κ p)) (hy : ev L y = some (.int κ q))
    (k : Q (.bool (decide (p = q))) V G) : Opr P n X L V G ⟨ds, .binOp .eql t x y u, ty, pos, af, gd⟩ Q :=
  bin_int hx hy (fun w => by simp only [binOp, Op.intCmp, ne_eq, not_true_eq_false, if_false, Sem.run_pure]; rfl) k
theorem op_neq {t u : TypeId} {x y : Operand} {κ : IntKind} {p q : Int} (hx : ev L x = some (.int κ p)) (hy : ev L y = some (.int κ q))
    (k : Q (.bool (!decide (p = q))) V G) : Opr P n X L V G ⟨ds, .binOp .neq t x y u, ty, pos, af, gd⟩ Q :=
  bin_int hx hy (fun w => by simp only [binOp, Op.intCmp, ne_eq, not_true_eq_false, if_false, Sem.run_pure]; rfl) k
theorem op_lss {t u : TypeId} {x y : Operand} {κ : IntKind} {p q : Int} (hx : ev L x = some (.int κ p)) (hy : ev L y = some (.int κ q))
    (k : Q (.bool (decide (p < q))) V G) : Opr P n X L V G ⟨ds, .binOp .lss t x y u, ty, pos, af, gd⟩ Q :=
  bin_int hx hy (fun w => by simp [binOp, Op.intCmp]) k
theorem op_leq {t u : TypeId} {x y : Operand} {κ : IntKind} {p q : Int} (hx : ev L x = some (.int κ p)) (hy : ev L y = some (.int κ q))
    (k : Q (.bool (decide (p ≤ q))) V G) : Opr P n X L V G ⟨ds, .binOp .leq t x y u, ty, pos, af, gd⟩ Q :=
  bin_int hx hy (fun w => by simp [binOp, Op.intCmp]) k
theorem op_gtr {t u : TypeId} {x y : Operand} {κ : IntKind} {p q : Int} (hx : ev L x = some (.int κ p)) (hy : ev L y = some (.int κ q))
    (k : Q (.bool (decide (q < p))) V G) : Opr P n X L V G ⟨ds, .binOp .gtr t x y u, ty, pos, af, gd⟩ Q :=
  bin_int hx hy (fun w => by simp [binOp, Op.intCmp]) k
theorem op_geq {t u : TypeId} {x y : Operand} {κ : IntKind} {p q : Int} (hx : ev L x = some (.int κ p)) (hy : ev L y = some (.int κ q))
    (k : Q (.bool (decide (q ≤ p))) V G) : Opr P n X L V G ⟨ds, .binOp .geq t x y u, ty, pos, af, gd⟩ Q :=
  bin_int hx hy (fun w => by simp [binOp, Op.intCmp]) k
theorem bin_sh {op : BinOp} {t u : TypeId} {x y : Operand} {κ κ' : IntKind} {p q : Int} {v : Value} (hx : ev L x = some (.int κ p)) (hy : ev L y = some (.int κ' q)) (hop : op = .shl ∨ op = .shr)
    (h : ∀ w, (Op.shift op κ p κ' q).run P w = .ok v w) (k : Q v V G) : Opr P n X L V G ⟨ds, .binOp op t x y u, ty, pos, af, gd⟩ Q := by
  refine opr_run (fun a w ha => ?_) k
  have h0 : (eqGuard op t x y (.int κ p) (.int κ' q)).run P w = .ok () w := by cases op <;> simp [eqGuard]
  rcases hop with rfl | rfl <;>
    (simp only [execOp, ha.ev hx, ha.ev hy, Sem.run_bind, h0, Result.andThen, binOp, h w]; rfl)
theorem op_shl {t u : TypeId} {x y : Operand} {κ κ' : IntKind} {p q : Int} (hx : ev L x = some (.int κ p)) (hy : ev L y = some (.int κ' q)) (h0 : 0 ≤ q)
    (k : Q (.int κ (κ.wrap (p * 2 ^ (min q.toNat κ.bits)))) V G) : Opr P n X L V G ⟨ds, .binOp .shl t x y u, ty, pos, af, gd⟩ Q :=
  bin_sh hx hy (.inl rfl) (fun w => by simp [Op.shift, Int.not_lt.2 h0]) k
theorem op_shr {t u : TypeId} {x y : Operand} {κ κ' : IntKind} {p q : Int} (hx : ev L x = some (.int κ p)) (hy : ev L y = some (.int κ' q)) (h0 : 0 ≤ q)
    (k : Q (.int κ (p.fdiv (2 ^ (min q.toNat κ.bits)))) V G) : Opr P n X L V G ⟨ds, .binOp .shr t x y u, ty, pos, af, gd⟩ Q :=
  bin_sh hx hy (.inr rfl) (fun w => by simp [Op.shift, Int.not_lt.2 h0]) k
theorem op_not {t : TypeId} {x : Operand} {b : Bool} (hx : ev L x = some (.bool b)) (k : Q (.bool (!b)) V G) : Opr P n X L V G ⟨ds, .unOp .not t x, ty, pos, af, gd⟩ Q :=
  opr_run (fun a w ha => by simp [execOp, ha.ev hx, Op.unary]) k
theorem op_neg {t : TypeId} {x : Operand} {κ : IntKind} {p : Int} (hx : ev L x = some (.int κ p)) (k : Q (.int κ (κ.wrap (0 - p))) V G) : Opr P n X L V G ⟨ds, .unOp .neg t x, ty, pos, af, gd⟩ Q :=
  opr_run (fun a w ha => by simp [execOp, ha.ev hx, Op.unary, Op.intArith]) k
theorem op_pick_t {c x y : Operand} {v : Value} (hc : ev L c = some (.bool true)) (hx : ev L x = some v) (k : Q v V G) : Opr P n X L V G ⟨ds, .pick c x y, ty, pos, af, gd⟩ Q :=
  opr_run (fun a w ha => by simp [execOp, ha.ev hc, ha.ev hx, asBool]) k
theorem op_pick_f {c x y : Operand} {v : Value} (hc : ev L c = some (.bool false)) (hy : ev L y = some v) (k : Q v V G) : Opr P n X L V G ⟨ds, .pick c x y, ty, pos, af, gd⟩ Q :=
  opr_run (fun a w ha => by simp [execOp, ha.ev hc, ha.ev hy, asBool]) k
theorem op_extract {x : Operand} {i : Nat} {l : List Value} {v : Value} (hx : ev L x = some (.tuple l.toArray)) (hi : l[i]? = some v) (k : Q v V G) : Opr P n X L V G ⟨ds, .extract x i, ty, pos, af, gd⟩ Q :=
  opr_run (fun a w ha => by simp [execOp, ha.ev hx, Instr.extract, hi]) k
theorem run_underlying {P : Program} {t : TypeId} {d : TypeDesc} (h : P.underlying t = some d) (w : World) : (underlying t).run P w = .ok d w := by
  simp [underlying, h]
theorem Ik_und {t : TypeId} {κ : IntKind} (h : Ik P t = some κ) : P.underlying t = some (.int κ) := by
  unfold Ik at h
  split at h
  · simp only [Option.some.injEq] at h; subst h; assumption
  · cases h
theorem op_convert (T : Tabs P) {t u : TypeId} {x : Operand} {κ κ' κ'' : IntKind} {p : Int} (hx : ev L x = some (.int κ p)) (ht : T.ik t = some κ'') (hu : T.ik u = some κ') (k : Q (.int κ' (κ'.wrap p)) V G) :
    Opr P n X L V G ⟨ds, .convert t u x, ty, pos, af, gd⟩ Q :=
  opr_run (fun a w ha => by
    simp [execOp, ha.ev hx, convert, run_underlying (Ik_und (T.ik_ok _ _ ht)) w, run_underlying (Ik_und (T.ik_ok _ _ hu)) w, Conv.intToInt]) k
end
end Fly
