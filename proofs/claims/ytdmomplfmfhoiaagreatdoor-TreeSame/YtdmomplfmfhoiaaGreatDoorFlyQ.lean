/-
  A small logic of walks: judgements, operations, regions, loops, calls. No condition.
-/
import Derived.Test.YtdmomplfmfhoiaaGreatDoorFlyP
import Derived.Test.YtdmomplfmfhoiaaGreatDoorTr1
import Derived.Laws.StructEq
namespace Fly
open Go
theorem ba_beq (a b : ByteArray) : (a == b) = decide (a = b) := by
  cases a with | mk a => cases b with | mk b =>
  show (a == b) = _
  by_cases h : a = b
  · subst h; simp
  · simp [h]
theorem beq_dec {α : Type} [BEq α] [LawfulBEq α] [DecidableEq α] (a b : α) : (a == b) = decide (a = b) := by
  by_cases h : a = b <;> simp [h]
section
variable {P : Program} {n : Nat} {X : Cx} {L : Lo} {V : View} {G : Own} {K : List KI} {Q : Value → View → Own → Prop} {all : Array Oper} {ops : List Oper}
variable {ty : TypeId} {pos : String} {af : Array Edge} {gd : Option (Nat × Bool)} {ds : Option Tmp}
theorem op_str {op : BinOp} {t u : TypeId} {x y : Operand} {p q : ByteArray} {v : Value} (hx : ev L x = some (.string p)) (hy : ev L y = some (.string q)) (h : ∀ w, (Op.stringOp op p q).run P w = .ok v w) (hb : binOp op t (.string p) (.string q) = Op.stringOp op p q) (k : Q v V G) :
    Opr P n X L V G ⟨ds, .binOp op t x y u, ty, pos, af, gd⟩ Q := by
  refine opr_run (fun a w ha => ?_) k
  have hg : (eqGuard op t x y (.string p) (.string q)).run P w = .ok () w := by cases op <;> simp [eqGuard]
  simp only [execOp, ha.ev hx, ha.ev hy, Sem.run_bind, hg, Result.andThen, hb, h, Sem.run_pure]
theorem op_eqs {t u : TypeId} {x y : Operand} {p q : ByteArray} (hx : ev L x = some (.string p)) (hy : ev L y = some (.string q)) (k : Q (.bool (decide (p = q))) V G) :
    Opr P n X L V G ⟨ds, .binOp .eql t x y u, ty, pos, af, gd⟩ Q := op_str hx hy (fun w => by rw [← ba_beq, beq_toListBytes]; rfl) rfl k
theorem op_neqs {t u : TypeId} {x y : Operand} {p q : ByteArray} (hx : ev L x = some (.string p)) (hy : ev L y = some (.string q)) (k : Q (.bool (!decide (p = q))) V G) :
    Opr P n X L V G ⟨ds, .binOp .neq t x y u, ty, pos, af, gd⟩ Q := op_str hx hy (fun w => by rw [← ba_beq, beq_toListBytes]; rfl) rfl k
theorem op_eqbd {t u : TypeId} {x y : Operand} {p q : Bool} (hx : ev L x = some (.bool p)) (hy : ev L y = some (.bool q)) (hu : P.underlying t = some .bool) (k : Q (.bool (decide (p = q))) V G) :
    Opr P n X L V G ⟨ds, .binOp .eql t x y u, ty, pos, af, gd⟩ Q := op_eqb hx hy hu (by rw [beq_dec]; exact k)
theorem op_neqbd {t u : TypeId} {x y : Operand} {p q : Bool} (hx : ev L x = some (.bool p)) (hy : ev L y = some (.bool q)) (hu : P.underlying t = some .bool) (k : Q (.bool (!decide (p = q))) V G) :
    Opr P n X L V G ⟨ds, .binOp .neq t x y u, ty, pos, af, gd⟩ Q := op_neqb hx hy hu (by rw [beq_dec]; exact k)
theorem w_splitb {d : Option Tmp} {op : Op} {j : Nat} {b t : Bool} {e : Nat} (_hj : (all[j]?).bind (·.dst) = some e) (hb : lk L e = some (.bool t))
    (ht : t = true → WR P n X ((e, .bool true) :: L) V G all (⟨d, op, ty, pos, af, some (j, b)⟩ :: ops) K)
    (hf : t = false → WR P n X ((e, .bool false) :: L) V G all (⟨d, op, ty, pos, af, some (j, b)⟩ :: ops) K) : WR P n X L V G all (⟨d, op, ty, pos, af, some (j, b)⟩ :: ops) K := w_split hb ht hf
theorem w_splitnb {d : Option Tmp} {op : Op} {j : Nat} {b t : Bool} {e : Nat} (_hj : (all[j]?).bind (·.dst) = some e) (hb : lk L e = some (.bool (!t)))
    (ht : t = false → WR P n X ((e, .bool true) :: L) V G all (⟨d, op, ty, pos, af, some (j, b)⟩ :: ops) K)
    (hf : t = true → WR P n X ((e, .bool false) :: L) V G all (⟨d, op, ty, pos, af, some (j, b)⟩ :: ops) K) : WR P n X L V G all (⟨d, op, ty, pos, af, some (j, b)⟩ :: ops) K :=
  w_split hb (fun h => ht (by simpa using h)) (fun h => hf (by simpa using h))
theorem wc_ifb {c : Operand} {x y : Code} {t : Bool} (hc : ev L c = some (.bool t)) (ht : t = true → WC P n X L V G x K) (hf : t = false → WC P n X L V G y K) :
    WC P n X L V G (.cond c x y) K := wc_cond hc ht hf
theorem wc_ifnb {c : Operand} {x y : Code} {t : Bool} (hc : ev L c = some (.bool (!t))) (ht : t = false → WC P n X L V G x K) (hf : t = true → WC P n X L V G y K) :
    WC P n X L V G (.cond c x y) K := wc_cond hc (fun h => ht (by simpa using h)) (fun h => hf (by simpa using h))
/-- A call of a function value that only reads. -/
theorem op_relv (T : Tabs P) {f : Nat} {c : Operand} {xs : List Operand} {vs : List Value} {R : Value → View → Prop} {ts : Array TypeId} (hc : ev L c = some (.func (.func f) #[] #[])) (hx : evs L xs = some vs) (hg : T.go f = true) (hr : Rel P f vs V R) (k : ∀ v V', Sub V V' → R v V' → Q v V' G) :
    Opr P n X L V G ⟨ds, .call { callee := .value c, args := xs.toArray, argTypes := ts }, ty, pos, af, gd⟩ Q :=
  op_callg T (first := []) (cap := []) (G0 := []) (G1 := G) hc hx hg (by simpa using hr.fing) (List.Perm.refl _) (by rintro v V' _ hs ⟨rfl, h⟩; exact k v V' hs h)
theorem op_purev (T : Tabs P) {f : Nat} {c : Operand} {xs : List Operand} {vs : List Value} {v : Value} {ts : Array TypeId} (hc : ev L c = some (.func (.func f) #[] #[])) (hx : evs L xs = some vs) (hg : T.go f = true) (hr : PureV P f vs V v) (k : Q v V G) :
    Opr P n X L V G ⟨ds, .call { callee := .value c, args := xs.toArray, argTypes := ts }, ty, pos, af, gd⟩ Q :=
  op_relv T hc hx hg hr (by rintro _ _ _ ⟨rfl, rfl⟩; exact k)
/-- Reading in a view that has grown. -/
theorem op_loadRN' (T : Tabs P) {V0 : View} {t : TypeId} {x : Operand} {k b off : Nat} {vs : List Value} (ht : T.ty t = some (true, k)) (hx : ev L x = some (.pointer (some ⟨b, off, none⟩))) (hl : vs.length = k) (hk : 0 < k) (h : ∀ j v, vs[j]? = some v → rd V0 b (off + j) v) (hs : Sub V0 V) (k' : Q (.agg vs.toArray) V G) : Opr P n X L V G ⟨ds, .load t x, ty, pos, af, gd⟩ Q :=
  op_loadRN T ht hx hl hk (fun j v hj => (h j v hj).mono hs) k'
theorem op_loadR' (T : Tabs P) {V0 : View} {t : TypeId} {x : Operand} {k b off : Nat} {v : Value} (ht : T.ty t = some (false, k)) (hx : ev L x = some (.pointer (some ⟨b, off, none⟩))) (h : rd V0 b off v) (hs : Sub V0 V) (k' : Q v V G) : Opr P n X L V G ⟨ds, .load t x, ty, pos, af, gd⟩ Q :=
  op_loadR T ht hx (h.mono hs) k'
theorem pureV_enter {f : FuncId} {fn : Func} {c : Code} {args : List Value} {v : Value} (hf : P.funcs[f]? = some fn) (hb : fn.body = some c) (hn : fn.ntmps = n) (hle : Nat.ble args.length n = true)
    (h : ∀ (X : Cx) (w : World), X.M = (fun _ => False) → X.w0 = w → X.V0 = V → X.R = finR P fn w V (fun v' V' G' => G' = [] ∧ v' = v ∧ V' = V) → WC P n X (argL 0 args) V [] c []) : PureV P f args V v :=
  rel_enter hf hb hn hle h
theorem Pure.v {f : FuncId} {args : List Value} {v : Value} (h : Pure P f args v) (V : View) : PureV P f args V v := fun w hs =>
  (h V w hs).mono (by rintro e w' ⟨v', V', G', rfl, hh, rfl, rfl, rfl⟩; exact ⟨_, _, _, rfl, hh, rfl, rfl, rfl⟩)
theorem PureV.mono {f : FuncId} {args : List Value} {v : Value} {V1 : View} (h : PureV P f args V v) (hs : Sub V V1) : PureV P f args V1 v := fun w hw =>
  (h w (fun r o hr => hw r o (hs r o hr))).mono (by
    rintro e w' ⟨v', V', G', rfl, hh, rfl, rfl, rfl⟩
    have hold : ∀ r o, V1 r = some o → w'.heap[r]? = some o := fun r o hr => by
      have h1 := hw r o hr
      rw [hh.ext.block r (Array.getElem?_eq_some_iff.1 h1).1 (fun h => h)]; exact h1
    exact ⟨_, V1, [], rfl, ⟨⟨hh.ext.os, hh.ext.tape, hh.ext.output, hh.ext.size, hh.ext.block⟩, hold, fun _ hp => (by cases hp), fun _ hp => (by cases hp), List.nodup_nil, Sub.refl _, fun r h0 hr => absurd h0 hr⟩, rfl, rfl, rfl⟩)
end
/-- Parts of a slice's cells, where they lie. -/
theorem Parts.rd {k m : Nat} {cs : List Value} {I : Nat → List Value → Prop} (h : Parts k cs m I) {V : View} {b off : Nat} (hr : ∀ i c, cs[i]? = some c → rd V b (off + i) c) {i : Nat} (hi : i < m) :
    ∃ c : List Value, c.length = k ∧ I i c ∧ ∀ j v, c[j]? = some v → rd V b (off + i * k + j) v := by
  obtain ⟨c, h1, h2, h3⟩ := h.2 i hi
  exact ⟨c, h1, h2, fun j v hj => by rw [Nat.add_assoc]; exact hr _ _ (h3 j v hj)⟩
theorem allB_true {m n : Nat} {g : Nat → Bool} (h : m = n) (h' : ∀ i, i < m → g i = true) : allB m n g = true := by
  subst h; simp only [allB, beq_self_eq_true, Bool.true_and, List.all_eq_true, List.mem_range]; exact h'
theorem allB_false {m n : Nat} {g : Nat → Bool} {i : Nat} (hi : i < m) (h : g i = false) : allB m n g = false := by
  simp only [allB, Bool.and_eq_false_iff]; right
  rw [List.all_eq_false]
  exact ⟨i, by simpa using hi, by simp [h]⟩
theorem allB_ne {m n : Nat} {g : Nat → Bool} (h : m ≠ n) : allB m n g = false := by
  simp [allB, h]
end Fly
