/-
  A small logic of walks: judgements, operations, regions, loops, calls. No condition.
-/
import Derived.Test.YtdmomplfmfhoiaaGreatDoorFlyC
import Derived.Laws.CopyRow
import Derived.Laws.AppendOwn
namespace Fly
open Go

/-- A block that is known: the call's own, or one that nobody writes. -/
inductive At (V : View) (G : Own) (b : Nat) (o : Obj) : Prop
  | own (h : Has G b o)
  | seen (h : V b = some o)
theorem At.heap {X : Cx} {V : View} {G : Own} {b : Nat} {o : Obj} (h : At V G b o) {w : World} (hw : Holds X V G w) : w.heap[b]? = some o := by
  cases h with
  | own h => exact hw.own _ h.mem
  | seen h => exact hw.view _ _ h

/-! ### Lists that are cut and put, in normal form -/
def cutO : List Value → Nat → Nat → Option (List Value)
  | _, 0, 0 => some []
  | [], _, _ => none
  | x :: l, 0, k + 1 => match cutO l 0 k with | some r => some (x :: r) | none => none
  | _ :: l, o + 1, k => cutO l o k
def overO : List Value → List Value → Option (List Value)
  | l, [] => some l
  | [], _ :: _ => none
  | _ :: l, v :: vs => match overO l vs with | some r => some (v :: r) | none => none
def putO : List Value → Nat → List Value → Option (List Value)
  | l, 0, vs => overO l vs
  | [], _ + 1, _ => none
  | x :: l, o + 1, vs => match putO l o vs with | some r => some (x :: r) | none => none
theorem cutO_spec : ∀ (l : List Value) (o k : Nat) (r : List Value), cutO l o k = some r → r.length = k ∧ ∀ j, j < k → l[o + j]? = r[j]?
  | l, 0, 0, r, h => by simp [cutO] at h; subst h; simp
  | [], 0, k + 1, r, h => by simp [cutO] at h
  | [], o + 1, k, r, h => by simp [cutO] at h
  | x :: l, 0, k + 1, r, h => by
    simp only [cutO] at h
    split at h
    · rename_i r' hr
      simp only [Option.some.injEq] at h; subst h
      obtain ⟨h1, h2⟩ := cutO_spec l 0 k r' hr
      refine ⟨by simp [h1], fun j hj => ?_⟩
      cases j with
      | zero => simp
      | succ j => have := h2 j (by omega); simpa using this
    · cases h
  | x :: l, o + 1, k, r, h => by
    have h' : cutO l o k = some r := by cases k <;> simpa [cutO] using h
    obtain ⟨h1, h2⟩ := cutO_spec l o k r h'
    refine ⟨h1, fun j hj => ?_⟩
    rw [show o + 1 + j = (o + j) + 1 by omega]
    simpa using h2 j hj
theorem overO_spec : ∀ (l vs r : List Value), overO l vs = some r → r = vs ++ l.drop vs.length ∧ vs.length ≤ l.length
  | l, [], r, h => by simp [overO] at h; simp [h]
  | [], v :: vs, r, h => by simp [overO] at h
  | x :: l, v :: vs, r, h => by
    simp only [overO] at h
    split at h
    · rename_i r' hr
      simp only [Option.some.injEq] at h; subst h
      obtain ⟨h1, h2⟩ := overO_spec l vs r' hr
      subst h1
      exact ⟨by simp, by simpa using h2⟩
    · cases h
theorem putO_spec : ∀ (l : List Value) (o : Nat) (vs r : List Value), putO l o vs = some r → r = l.take o ++ vs ++ l.drop (o + vs.length) ∧ o + vs.length ≤ l.length
  | l, 0, vs, r, h => by
    have h' : overO l vs = some r := by simpa [putO] using h
    obtain ⟨h1, h2⟩ := overO_spec l vs r h'
    exact ⟨by simpa using h1, by simpa using h2⟩
  | [], o + 1, vs, r, h => by simp [putO] at h
  | x :: l, o + 1, vs, r, h => by
    simp only [putO] at h
    split at h
    · rename_i r' hr
      simp only [Option.some.injEq] at h; subst h
      obtain ⟨h1, h2⟩ := putO_spec l o vs r' hr
      subst h1
      refine ⟨by simp [show o + 1 + vs.length = (o + vs.length) + 1 by omega], by simp; omega⟩
    · cases h

/-! ### Reading a variable -/
theorem addr_add (b o k : Nat) : (⟨b, o, none⟩ : Addr).add k = ⟨b, o + k, none⟩ := by unfold Addr.add; split <;> simp_all
theorem cell_of {w : World} {b off : Nat} {cs : Array Value} {e : TypeId} {fr : Nat × Nat} (h : w.heap[b]? = some (.cells cs e fr)) : w.cell? ⟨b, off, none⟩ = cs[off]? := by
  simp [World.cell?, h]
theorem Ty_run {P : Program} {t : TypeId} {g : Bool} {k : Nat} (h : Ty P t = some (g, k)) (w : World) : (isAgg t).run P w = .ok g w ∧ (Go.sizeOf t).run P w = .ok k w ∧ (P.info? t).map (·.size) = some k := by
  unfold Ty at h
  split at h
  · rename_i i d hi hd
    simp only [Option.some.injEq, Prod.mk.injEq] at h
    obtain ⟨h1, h2⟩ := h
    refine ⟨?_, by simp [Go.sizeOf, typeInfo, hi, h2], by simp [hi, h2]⟩
    simp only [isAgg, Sem.run_bind, run_underlying hd, Result.andThen]
    subst h1
    cases d <;> rfl
  · cases h
theorem load1 {P : Program} {w : World} {t : TypeId} {k b off : Nat} {v : Value} (ht : Ty P t = some (false, k)) (hc : w.cell? ⟨b, off, none⟩ = some v) :
    (loadVar t ⟨b, off, none⟩).run P w = .ok v w := by
  simp [loadVar, Sem.run_bind, (Ty_run ht w).1, Result.andThen, hc]
theorem loadN {P : Program} {w : World} {t : TypeId} {k b off : Nat} {vs : List Value} (ht : Ty P t = some (true, k)) (hl : vs.length = k) (hc : ∀ j v, vs[j]? = some v → w.cell? ⟨b, off + j, none⟩ = some v) :
    (loadVar t ⟨b, off, none⟩).run P w = .ok (.agg vs.toArray) w := by
  have h1 := run_loadCells_list (P := P) w ⟨b, off, none⟩ vs (fun j v hv => by rw [addr_add]; exact hc j v hv)
  simp [loadVar, Sem.run_bind, (Ty_run ht w).1, (Ty_run ht w).2.1, Result.andThen, ← hl, h1]

section
variable {P : Program} {n : Nat} {X : Cx} {L : Lo} {V : View} {G : Own} {Q : Value → View → Own → Prop}
variable {ty : TypeId} {pos : String} {af : Array Edge} {gd : Option (Nat × Bool)} {ds : Option Tmp}

theorem rd1 (T : Tabs P) {t : TypeId} {k b off : Nat} {l : List Value} {e : TypeId} {fr : Nat × Nat} {v : Value} (ht : T.ty t = some (false, k)) (hA : At V G b (.cells l.toArray e fr)) (hv : l[off]? = some v)
    {w : World} (hw : Holds X V G w) : (loadVar t ⟨b, off, none⟩).run P w = .ok v w :=
  load1 (T.ty_ok _ _ ht) (by rw [cell_of (hA.heap hw)]; simpa using hv)
theorem rdN (T : Tabs P) {t : TypeId} {k b off : Nat} {l vs : List Value} {e : TypeId} {fr : Nat × Nat} (ht : T.ty t = some (true, k)) (hA : At V G b (.cells l.toArray e fr)) (hv : cutO l off k = some vs)
    {w : World} (hw : Holds X V G w) : (loadVar t ⟨b, off, none⟩).run P w = .ok (.agg vs.toArray) w := by
  obtain ⟨h1, h2⟩ := cutO_spec _ _ _ _ hv
  refine loadN (T.ty_ok _ _ ht) h1 fun j v hj => ?_
  rw [cell_of (hA.heap hw)]
  have hlt : j < k := by rw [← h1]; exact (List.getElem?_eq_some_iff.1 hj).1
  simpa [h2 j hlt] using hj
theorem op_ld {t : TypeId} {x : Operand} {p : Addr} {v : Value} (hx : ev L x = some (.pointer (some p))) (h : ∀ w, Holds X V G w → (loadVar t p).run P w = .ok v w) (k : Q v V G) :
    Opr P n X L V G ⟨ds, .load t x, ty, pos, af, gd⟩ Q := fun a ha w hw =>
  .inl ⟨v, w, V, G, .inl (by simp [execOp, ha.ev hx, Instr.loadAt, Instr.sureAddr, h w hw]), k, hw⟩
theorem op_load1 (T : Tabs P) {t : TypeId} {x : Operand} {k b off : Nat} {l : List Value} {e : TypeId} {fr : Nat × Nat} {v : Value} (ht : T.ty t = some (false, k)) (hx : ev L x = some (.pointer (some ⟨b, off, none⟩)))
    (hA : At V G b (.cells l.toArray e fr)) (hv : l[off]? = some v) (k' : Q v V G) : Opr P n X L V G ⟨ds, .load t x, ty, pos, af, gd⟩ Q :=
  op_ld hx (fun _ hw => rd1 T ht hA hv hw) k'
theorem op_loadN (T : Tabs P) {t : TypeId} {x : Operand} {k b off : Nat} {l vs : List Value} {e : TypeId} {fr : Nat × Nat} (ht : T.ty t = some (true, k)) (hx : ev L x = some (.pointer (some ⟨b, off, none⟩)))
    (hA : At V G b (.cells l.toArray e fr)) (hv : cutO l off k = some vs) (k' : Q (.agg vs.toArray) V G) : Opr P n X L V G ⟨ds, .load t x, ty, pos, af, gd⟩ Q :=
  op_ld hx (fun _ hw => rdN T ht hA hv hw) k'
/-- A cell of an array that is only seen: by its own fact. -/
theorem op_loadc (T : Tabs P) {t : TypeId} {x : Operand} {k b off : Nat} {cs : Array Value} {e : TypeId} {fr : Nat × Nat} {v : Value} (ht : T.ty t = some (false, k)) (hx : ev L x = some (.pointer (some ⟨b, off, none⟩)))
    (hA : At V G b (.cells cs e fr)) (hv : cs[off]? = some v) (k' : Q v V G) : Opr P n X L V G ⟨ds, .load t x, ty, pos, af, gd⟩ Q :=
  op_ld hx (fun _ hw => load1 (T.ty_ok _ _ ht) (by rw [cell_of (hA.heap hw)]; exact hv)) k'
theorem op_loadcN (T : Tabs P) {t : TypeId} {x : Operand} {k b off : Nat} {cs : Array Value} {e : TypeId} {fr : Nat × Nat} {vs : List Value} (ht : T.ty t = some (true, k)) (hx : ev L x = some (.pointer (some ⟨b, off, none⟩)))
    (hA : At V G b (.cells cs e fr)) (hl : vs.length = k) (hv : ∀ j v, vs[j]? = some v → cs[off + j]? = some v) (k' : Q (.agg vs.toArray) V G) : Opr P n X L V G ⟨ds, .load t x, ty, pos, af, gd⟩ Q :=
  op_ld hx (fun _ hw => loadN (T.ty_ok _ _ ht) hl (fun j v hj => by rw [cell_of (hA.heap hw)]; exact hv j v hj)) k'
theorem op_fieldAddr (T : Tabs P) {s f : Nat} {x : Operand} {b off o k : Nat} {g : Bool} (hx : ev L x = some (.pointer (some ⟨b, off, none⟩))) (hf : T.fo s f = some (o, g, k))
    (k' : Q (.pointer (some ⟨b, off + o, none⟩)) V G) : Opr P n X L V G ⟨ds, .fieldAddr s x f, ty, pos, af, gd⟩ Q := by
  have h := T.fo_ok _ _ _ hf
  unfold Fo at h
  split at h
  · rename_i fs hu
    split at h
    · rename_i y hy
      split at h
      · rename_i g' k'' ht
        split at h
        · cases h
        · rename_i hk
          simp only [Option.some.injEq, Prod.mk.injEq] at h
          obtain ⟨rfl, rfl, rfl⟩ := h
          refine opr_run (fun a w ha => ?_) k'
          simp [execOp, ha.ev hx, Instr.fieldAt, run_underlying hu, hy, Instr.sureAddr, fieldPlace, (Ty_run ht w).2.1, hk, addr_add]
      · cases h
    · cases h
  · cases h
theorem op_field1 (T : Tabs P) {s f : Nat} {x : Operand} {l : List Value} {o k : Nat} {v : Value} (hx : ev L x = some (.agg l.toArray)) (hf : T.fo s f = some (o, false, k)) (hv : l[o]? = some v)
    (k' : Q v V G) : Opr P n X L V G ⟨ds, .field s x f, ty, pos, af, gd⟩ Q := by
  have h := T.fo_ok _ _ _ hf
  unfold Fo at h
  split at h
  · rename_i fs hu
    split at h
    · rename_i y hy
      split at h
      · rename_i g' k'' ht
        split at h
        · cases h
        · rename_i hk
          simp only [Option.some.injEq, Prod.mk.injEq] at h
          obtain ⟨rfl, rfl, rfl⟩ := h
          refine opr_run (fun a w ha => ?_) k'
          simp [execOp, ha.ev hx, Instr.field, run_underlying hu, hy, asAgg, part, (Ty_run ht w).1, hv]
      · cases h
    · cases h
  · cases h
theorem op_indexAddr (T : Tabs P) {t e : TypeId} {x y : Operand} {b off len cap k : Nat} {κ : IntKind} {j : Int} (hx : ev L x = some (.slice (some ⟨b, off, none⟩) len cap)) (hy : ev L y = some (.int κ j)) (hE : T.el t = some (e, k))
    (h0 : 0 ≤ j) (h1 : j < (len : Int)) (k' : Q (.pointer (some ⟨b, off + j.toNat * k, none⟩)) V G) : Opr P n X L V G ⟨ds, .indexAddr t x y, ty, pos, af, gd⟩ Q := by
  have h := T.el_ok _ _ hE
  unfold El at h
  split at h
  · rename_i e' hu
    split at h
    · rename_i g' k'' ht
      simp only [Option.some.injEq, Prod.mk.injEq] at h
      obtain ⟨rfl, rfl⟩ := h
      refine opr_run (fun a w ha => ?_) k'
      simp [execOp, ha.ev hx, ha.ev hy, Instr.indexAt, asIntOf, run_underlying hu, h0, h1, (Ty_run ht w).2.1, addr_add]
    · cases h
  · cases h
theorem El_und {t e : TypeId} {k : Nat} (h : El P t = some (e, k)) : P.underlying t = some (.slice e) ∧ ∃ g, Ty P e = some (g, k) := by
  unfold El at h
  split at h
  · rename_i e' hu
    split at h
    · rename_i g' k'' ht
      simp only [Option.some.injEq, Prod.mk.injEq] at h
      obtain ⟨rfl, rfl⟩ := h
      exact ⟨hu, g', ht⟩
    · cases h
  · cases h
theorem op_len (T : Tabs P) {t e : TypeId} {k : Nat} {x : Operand} {a : Option Addr} {len cap : Nat} {ts : Array TypeId} (hx : ev L x = some (.slice a len cap)) (ht : ts[0]? = some t) (hE : T.el t = some (e, k))
    (k' : Q (.int .i64 (len : Int)) V G) : Opr P n X L V G ⟨ds, .call { callee := .builtin .len, args := #[x], argTypes := ts }, ty, pos, af, gd⟩ Q := by
  obtain ⟨hu, _⟩ := El_und (T.el_ok _ _ hE)
  refine opr_run (fun a w ha => ?_) k'
  simp [execOp, resolve, invoke, builtin, Builtin.len_, ht, ha.ev hx, run_underlying hu, goInt]

/-! ### New blocks -/
theorem op_new {op : Op} {cs : Array Value} {e : TypeId} (h : ∀ a w, Knows n L a → (execOp a.eval ⟨ds, op, ty, pos, af, gd⟩).run P w = .ok (.value (.pointer (some ⟨w.heap.size, 0, none⟩))) { w with heap := w.heap.push (.cells cs e) })
    (k : ∀ b, Q (.pointer (some ⟨b, 0, none⟩)) V ((b, .cells cs e (0, 0)) :: G)) : Opr P n X L V G ⟨ds, op, ty, pos, af, gd⟩ Q := fun a ha w hw =>
  .inl ⟨_, _, V, _, .inl (h a w ha), k w.heap.size, hw.alloc _⟩
theorem op_box1 {e : TypeId} {x : Operand} {v : Value} (hx : ev L x = some v) (hv : v.cells = #[v]) (k : ∀ b, Q (.pointer (some ⟨b, 0, none⟩)) V ((b, .cells #[v] e (0, 0)) :: G)) : Opr P n X L V G ⟨ds, .box e x, ty, pos, af, gd⟩ Q :=
  op_new (cs := #[v]) (e := e) (fun a w ha => by simp [execOp, ha.ev hx, Instr.box, newVar, newRow, hv]) k
theorem op_boxN {e : TypeId} {x : Operand} {l : List Value} (hx : ev L x = some (.agg l.toArray)) (k : ∀ b, Q (.pointer (some ⟨b, 0, none⟩)) V ((b, .cells l.toArray e (0, 0)) :: G)) : Opr P n X L V G ⟨ds, .box e x, ty, pos, af, gd⟩ Q :=
  op_new (cs := l.toArray) (e := e) (fun a w ha => by simp [execOp, ha.ev hx, Instr.box, newVar, newRow, Value.cells]) k
theorem Ze_run {e : TypeId} {z : List Value} (h : Ze P e = some z) (w : World) : ∃ v, (zeroValue e).run P w = .ok v w ∧ v.cells = z.toArray := by
  unfold Ze at h
  split at h
  · rename_i i hi
    cases hz : i.zero with
    | none => simp [hz] at h
    | some v =>
      simp only [hz, Option.map_some, Option.some.injEq] at h
      exact ⟨v, by simp [zeroValue, typeInfo, hi, hz], by rw [← h]⟩
  · cases h
theorem op_alloc (T : Tabs P) {e : TypeId} {z : List Value} (hz : T.ze e = some z) (k : ∀ b, Q (.pointer (some ⟨b, 0, none⟩)) V ((b, .cells z.toArray e (0, 0)) :: G)) : Opr P n X L V G ⟨ds, .alloc e, ty, pos, af, gd⟩ Q :=
  op_new (cs := z.toArray) (e := e) (fun a w _ => by
    obtain ⟨v, h1, h2⟩ := Ze_run (T.ze_ok _ _ hz) w
    simp [execOp, Instr.alloc, newVar, newRow, h1, h2]) k

/-! ### Stores -/
theorem setRow_eq (w : World) (g : Nat) (cur cs : Array Value) (t : TypeId) (h : w.heap[g]? = some (.cells cur t (0, 0))) : w.setRow g cs = { w with heap := w.heap.setIfInBounds g (.cells cs t (0, 0)) } := by
  unfold World.setRow
  congr 1
  apply Array.ext
  · simp
  · intro k h1 h2
    simp only [Array.getElem_modify]
    split
    · rename_i hk
      subst hk
      have hlt : g < w.heap.size := by simpa using h1
      have : w.heap[g] = .cells cur t (0, 0) := by
        have := (Array.getElem?_eq_some_iff.1 h).2; simpa using this
      simp [this]
    · rename_i hk
      have h3 : ((w.heap.setIfInBounds g (Obj.cells cs t))[k]'h2) = w.heap[k]'(by simpa using h2) := Array.getElem_setIfInBounds_ne (by simpa using h2) hk
      exact h3.symm
theorem st_run {w : World} {g o : Nat} {t : TypeId} {l vs r : List Value} (hg : w.heap[g]? = some (.cells l.toArray t (0, 0))) (hp : putO l o vs = some r) (h1 : ∀ v ∈ vs, v.oneCell' = true) :
    (storeCells ⟨g, o, none⟩ vs 0).run P w = .ok () { w with heap := w.heap.setIfInBounds g (.cells r.toArray t (0, 0)) } := by
  obtain ⟨hr, hle⟩ := putO_spec _ _ _ _ hp
  have := run_storeCells_at P g o t vs 0 l.toArray w hg (by simpa using hle) h1
  rw [this, setRow_eq w g l.toArray _ t hg]
  simp [hr]
theorem op_st (T : Tabs P) {t : TypeId} {x y : Operand} {b off k : Nat} {v : Value} {l vs r : List Value} {e : TypeId} {g : Bool} {G' : Own} (hx : ev L x = some (.pointer (some ⟨b, off, none⟩))) (hy : ev L y = some v) (hc : v.cells = vs.toArray)
    (h1 : ∀ u ∈ vs, u.oneCell' = true) (ht : T.ty t = some (g, k)) (hk : vs.length = k) (hu : Upd G b (.cells l.toArray e (0, 0)) (.cells r.toArray e (0, 0)) G') (hp : putO l off vs = some r) (k' : Q undef V G') :
    Opr P n X L V G ⟨ds, .store t x y, ty, pos, af, gd⟩ Q := fun a ha w hw => by
  have hg := hw.own _ hu.has.mem
  have hs := st_run (P := P) (w := w) hg hp h1
  refine .inl ⟨undef, _, V, G', .inr ⟨?_, rfl⟩, k', hw.upd hu⟩
  simp [execOp, ha.ev hx, ha.ev hy, Instr.storeAt, Instr.sureAddr, storeVar, hc, (Ty_run (T.ty_ok _ _ ht) w).2.1, hk, hs]
theorem op_store1 (T : Tabs P) {t : TypeId} {x y : Operand} {b off : Nat} {v : Value} {l r : List Value} {e : TypeId} {g : Bool} {G' : Own} (hx : ev L x = some (.pointer (some ⟨b, off, none⟩))) (hy : ev L y = some v) (hc : v.cells = #[v])
    (h1 : v.oneCell' = true) (ht : T.ty t = some (g, 1)) (hu : Upd G b (.cells l.toArray e (0, 0)) (.cells r.toArray e (0, 0)) G') (hp : putO l off [v] = some r) (k' : Q undef V G') :
    Opr P n X L V G ⟨ds, .store t x y, ty, pos, af, gd⟩ Q := op_st T hx hy hc (by simpa using h1) ht rfl hu hp k'
theorem op_storeN (T : Tabs P) {t : TypeId} {x y : Operand} {b off k : Nat} {l vs r : List Value} {e : TypeId} {g : Bool} {G' : Own} (hx : ev L x = some (.pointer (some ⟨b, off, none⟩))) (hy : ev L y = some (.agg vs.toArray))
    (h1 : vs.all (·.oneCell') = true) (ht : T.ty t = some (g, k)) (hk : vs.length = k) (hu : Upd G b (.cells l.toArray e (0, 0)) (.cells r.toArray e (0, 0)) G') (hp : putO l off vs = some r) (k' : Q undef V G') :
    Opr P n X L V G ⟨ds, .store t x y, ty, pos, af, gd⟩ Q := op_st T hx hy rfl (List.all_eq_true.1 h1) ht hk hu hp k'

/-! ### Calls -/
theorem goes {f : FuncId} (h : goesB P f = true) (args : Array Value) (w : World) : (callFunc f args).run P w = .ok (.enter f args) w := by
  unfold goesB at h
  split at h
  · rename_i fn hf
    simp only [Bool.and_eq_true, Bool.not_eq_true'] at h
    simp only [callFunc, Sem.run_bind, run_program, Result.andThen, hf, h.1]
    have hb : fn.body.isNone = false := by cases hb : fn.body <;> simp [hb] at h ⊢
    simp [hb]
  · cases h
def evs (L : Lo) : List Operand → Option (List Value)
  | [] => some []
  | x :: xs => match ev L x with
    | some v => match evs L xs with
      | some vs => some (v :: vs)
      | none => none
    | none => none
theorem evs_map {a : Act} (ha : Knows n L a) : ∀ (xs : List Operand) (vs : List Value), evs L xs = some vs → xs.map a.eval = vs
  | [], vs, h => by simp [evs] at h; simp [h]
  | x :: xs, vs, h => by
    simp only [evs] at h
    split at h
    · rename_i v hv
      split at h
      · rename_i us hu
        simp only [Option.some.injEq] at h; subst h
        simp [ha.ev hv, evs_map ha xs us hu]
      · cases h
    · cases h
theorem op_call (T : Tabs P) {f : Nat} {xs : List Operand} {vs : List Value} {ts : Array TypeId} {R : Value → View → Own → Prop} (hx : evs L xs = some vs) (hg : T.go f = true)
    (hc : ∀ w, Seen V w → Fine P f vs.toArray V w R) (k : ∀ v V' G', R v V' G' → Q v V' (G' ++ G)) :
    Opr P n X L V G ⟨ds, .call { callee := .value (.func f), args := xs.toArray, argTypes := ts }, ty, pos, af, gd⟩ Q := fun a ha w hw => by
  refine .inr ⟨f, vs.toArray, w, ?_, ?_⟩
  · have hm := evs_map ha xs vs hx
    simp [execOp, resolve, Deferred.ofValue, Act.eval, invoke, goes (T.go_ok f hg), hm]
  · refine (hc w hw.seen).mono ?_
    rintro e w' ⟨v, V', G', rfl, hh, hr⟩
    exact ⟨v, V', G' ++ G, rfl, k v V' G' hr, hw.call rfl rfl (fun _ h => h) hh⟩
end
end Fly
