/-
  A small logic of walks: judgements, operations, regions, loops, calls. No condition.
-/
import Derived.Calls
import Derived.Tactics
import Derived.Orders
import Derived.Below
import Derived.Laws.Cells
import Derived.Laws.Rows
namespace Fly
open Go

abbrev View := Nat → Option Obj
abbrev Own := List (Nat × Obj)
abbrev Lo := List (Nat × Value)

/-- What a call may have done to the world w0: of the blocks that were there only those of M may have turned. -/
structure Ext (M : Nat → Prop) (w0 w : World) : Prop where
  os : w.os = w0.os
  tape : w.tape = w0.tape
  output : w.output = w0.output
  size : w0.heap.size ≤ w.heap.size
  block : ∀ k, k < w0.heap.size → ¬ M k → w.heap[k]? = w0.heap[k]?

theorem Ext.refl (M) (w : World) : Ext M w w := ⟨rfl, rfl, rfl, Nat.le_refl _, fun _ _ _ => rfl⟩
theorem Ext.trans {M} {a b c : World} (h : Ext M a b) (k : Ext M b c) : Ext M a c :=
  ⟨k.os.trans h.os, k.tape.trans h.tape, k.output.trans h.output, Nat.le_trans h.size k.size,
   fun i hi hm => (k.block i (Nat.lt_of_lt_of_le hi h.size) hm).trans (h.block i hi hm)⟩
theorem Ext.below {w0 w : World} (h : Ext (fun _ => False) w0 w) : Go.RowKit.Below w0.heap.size w0 w :=
  ⟨h.os, h.tape, h.output, h.size, fun k hk => h.block k hk (fun h => h)⟩

/-- What a walk is in: what it may write, where and on what view it began, what is asked at its end. -/
structure Cx where
  M : Nat → Prop
  w0 : World
  V0 : View
  R : Exit → Act → World → Prop

/-- Views grow. -/
def Sub (V V' : View) : Prop := ∀ r o, V r = some o → V' r = some o
theorem Sub.refl (V) : Sub V V := fun _ _ h => h
theorem Sub.trans {A B C : View} (h : Sub A B) (k : Sub B C) : Sub A C := fun r o x => k r o (h r o x)

structure Holds (X : Cx) (V : View) (G : Own) (w : World) : Prop where
  ext : Ext X.M X.w0 w
  view : ∀ r o, V r = some o → w.heap[r]? = some o
  own : ∀ p ∈ G, w.heap[p.1]? = some p.2
  free : ∀ p ∈ G, (X.w0.heap.size ≤ p.1 ∨ X.M p.1) ∧ V p.1 = none
  nodup : (G.map (·.1)).Nodup
  sub : Sub X.V0 V
  newer : ∀ r, X.V0 r = none → V r ≠ none → X.w0.heap.size ≤ r ∨ X.M r

def lk : Lo → Nat → Option Value
  | [], _ => none
  | (k, v) :: l, t => bif Nat.beq k t then some v else lk l t

def ev (L : Lo) : Operand → Option Value
  | .tmp t => lk L t
  | .const v => some v
  | .global g => some (.pointer (some ⟨g, 0, none⟩))
  | .func f => some (.func (.func f) #[] #[])

structure Knows (n : Nat) (L : Lo) (a : Act) : Prop where
  defers : a.defers = []
  size : a.tmps.size = n
  get : ∀ t v, lk L t = some v → a.tmps[t]? = some v

theorem Knows.ev {n : Nat} {L : Lo} {a : Act} (h : Knows n L a) {x : Operand} {v : Value} (hx : ev L x = some v) : a.eval x = v := by
  cases x with
  | tmp t => simp only [Fly.ev] at hx; simp [Act.eval, h.get t v hx]
  | const c => simp only [Fly.ev, Option.some.injEq] at hx; exact hx
  | global g => simp only [Fly.ev, Option.some.injEq] at hx; exact hx
  | func f => simp only [Fly.ev, Option.some.injEq] at hx; exact hx

def okd (n : Nat) : Option Tmp → Bool
  | none => true
  | some d => Nat.blt d n
def putL (d : Option Tmp) (v : Value) (L : Lo) : Lo :=
  match d with
  | none => L
  | some d => (d, v) :: L

theorem Knows.put {n : Nat} {L : Lo} {a : Act} (h : Knows n L a) {d : Option Tmp} (hd : okd n d = true) (v : Value) : Knows n (putL d v L) (a.put d v) := by
  cases d with
  | none => exact h
  | some d =>
    have hd' : d < n := by simpa [okd] using hd
    refine ⟨h.defers, by simp [Act.put, h.size], fun t u ht => ?_⟩
    simp only [putL, lk] at ht
    by_cases e : d = t
    · subst e
      simp at ht
      subst ht
      have : d < a.tmps.size := by rw [h.size]; exact hd'
      simp [Act.put, this]
    · have : Nat.beq d t = false := by
        cases hb : Nat.beq d t with
        | false => rfl
        | true => exact absurd (Nat.eq_of_beq_eq_true hb) e
      rw [this] at ht
      simp only [cond_false] at ht
      simp [Act.put, Array.getElem?_setIfInBounds_ne e, h.get t u ht]

/-! ### The continuation of a piece of code -/
inductive KI where
  | code (c : Code)
  | blk (id : Nat)
  | lp (J : Act → World → Prop)

def Post (P : Program) (R : Exit → Act → World → Prop) : List KI → Exit → Act → World → Prop
  | [], e, a, w => R e a w
  | .code c :: K, .normal, a, w => c.wp P (Post P R K) a w
  | .code _ :: K, e, a, w => Post P R K e a w
  | .blk _ :: K, .normal, a, w => Post P R K .normal a w
  | .blk id :: K, .exit id', a, w => if id' = id then Post P R K .normal a w else Post P R K (.exit id') a w
  | .blk _ :: K, e, a, w => Post P R K e a w
  | .lp J :: _, .normal, a, w => J a w
  | .lp _ :: K, e, a, w => Post P R K e a w

/-- In every frame and world of which this is known. -/
def St (n : Nat) (X : Cx) (L : Lo) (V : View) (G : Own) (F : Act → World → Prop) : Prop :=
  ∀ a w, Knows n L a → Holds X V G w → F a w

def WC (P : Program) (n : Nat) (X : Cx) (L : Lo) (V : View) (G : Own) (c : Code) (K : List KI) : Prop :=
  St n X L V G fun a w => c.wp P (Post P X.R K) a w
def WE (P : Program) (n : Nat) (X : Cx) (L : Lo) (V : View) (G : Own) (e : Exit) (K : List KI) : Prop :=
  St n X L V G fun a w => Post P X.R K e a w
def WR (P : Program) (n : Nat) (X : Cx) (L : Lo) (V : View) (G : Own) (all : Array Oper) (ops : List Oper) (K : List KI) : Prop :=
  St n X L V G fun a w => wpList P all (Post P X.R K) ops a w

section
variable {P : Program} {n : Nat} {X : Cx} {L : Lo} {V : View} {G : Own} {K : List KI}

theorem Exit_then_post {y : Code} : ∀ (e : Exit) (a : Act) (w : World), Post P X.R (.code y :: K) e a w → Exit.then (y.wp P (Post P X.R K)) (Post P X.R K) e a w := by
  intro e a w h
  cases e <;> simpa [Exit.then, Post] using h

theorem wc_seq {x y : Code} (h : WC P n X L V G x (.code y :: K)) : WC P n X L V G (.seq x y) K :=
  fun a w ha hw => wp_seq (Code.wp_mono (fun e a w q => Exit_then_post e a w q) (h a w ha hw))
theorem wc_block {id : Nat} {c : Code} (h : WC P n X L V G c (.blk id :: K)) : WC P n X L V G (.block id c) K :=
  fun a w ha hw => wp_block (Code.wp_mono (fun e a w q => by
    cases e <;> simp only [Exit.inBlock, Post] at q ⊢ <;> exact q) (h a w ha hw))
theorem wc_skip (h : WE P n X L V G .normal K) : WC P n X L V G .skip K := fun a w ha hw => wp_skip (h a w ha hw)
theorem wc_label {l : Nat} (h : WE P n X L V G .normal K) : WC P n X L V G (.label l) K := fun a w ha hw => wp_label (h a w ha hw)
theorem wc_exit {id : Nat} (h : WE P n X L V G (.exit id) K) : WC P n X L V G (.exit id) K := fun a w ha hw => wp_exit (h a w ha hw)
theorem wc_ret (h : WE P n X L V G .ret K) : WC P n X L V G .ret K := fun a w ha hw => wp_ret (h a w ha hw)
theorem wc_cond {c : Operand} {x y : Code} {t : Bool} (hc : ev L c = some (.bool t)) (ht : t = true → WC P n X L V G x K) (hf : t = false → WC P n X L V G y K) :
    WC P n X L V G (.cond c x y) K := fun a w ha hw => wp_cond_split (ha.ev hc) (fun e => ht e a w ha hw) (fun e => hf e a w ha hw)
theorem wc_cond_t {c : Operand} {x y : Code} (hc : ev L c = some (.bool true)) (h : WC P n X L V G x K) : WC P n X L V G (.cond c x y) K :=
  wc_cond hc (fun _ => h) (fun e => nomatch e)
theorem wc_cond_f {c : Operand} {x y : Code} (hc : ev L c = some (.bool false)) (h : WC P n X L V G y K) : WC P n X L V G (.cond c x y) K :=
  wc_cond hc (fun e => nomatch e) (fun _ => h)
theorem wc_region {id : Nat} {l : List Oper} (h : WR P n X L V G l.toArray l K) : WC P n X L V G (.region id l.toArray false) K :=
  fun a w ha hw => wp_region_lit (h a w ha hw)

theorem we_code {c : Code} (h : WC P n X L V G c K) : WE P n X L V G .normal (.code c :: K) := fun a w ha hw => h a w ha hw
theorem we_blk {id : Nat} (h : WE P n X L V G .normal K) : WE P n X L V G .normal (.blk id :: K) := fun a w ha hw => h a w ha hw
theorem we_lp {J : Act → World → Prop} (h : St n X L V G J) : WE P n X L V G .normal (.lp J :: K) := fun a w ha hw => h a w ha hw
theorem we_exit_code {id : Nat} {c : Code} (h : WE P n X L V G (.exit id) K) : WE P n X L V G (.exit id) (.code c :: K) := fun a w ha hw => h a w ha hw
theorem we_exit_lp {id : Nat} {J : Act → World → Prop} (h : WE P n X L V G (.exit id) K) : WE P n X L V G (.exit id) (.lp J :: K) := fun a w ha hw => h a w ha hw
theorem we_exit_here {id : Nat} (h : WE P n X L V G .normal K) : WE P n X L V G (.exit id) (.blk id :: K) := fun a w ha hw => by
  simp only [Post, if_true]; exact h a w ha hw
theorem we_exit_on {id id' : Nat} (hne : Nat.beq id id' = false) (h : WE P n X L V G (.exit id) K) : WE P n X L V G (.exit id) (.blk id' :: K) := fun a w ha hw => by
  have : ¬ id = id' := fun e => by subst e; simp at hne
  simp only [Post, if_neg this]; exact h a w ha hw
theorem post_ret : ∀ (K : List KI) (a : Act) (w : World), X.R .ret a w → Post P X.R K .ret a w
  | [], _, _, h => h
  | .code _ :: K, a, w, h => post_ret K a w h
  | .blk _ :: K, a, w, h => post_ret K a w h
  | .lp _ :: K, a, w, h => post_ret K a w h
theorem we_ret (h : St n X L V G fun a w => X.R .ret a w) : WE P n X L V G .ret K := fun a w ha hw => post_ret K a w (h a w ha hw)
theorem we_end (h : St n X L V G fun a w => X.R .normal a w) : WE P n X L V G .normal [] := fun a w ha hw => h a w ha hw

theorem wc_mono {L' : Lo} {c : Code} (h : WC P n X L' V G c K) (hL : ∀ t v, lk L' t = some v → lk L t = some v) : WC P n X L V G c K :=
  fun a w ha hw => h a w ⟨ha.defers, ha.size, fun t v e => ha.get t v (hL t v e)⟩ hw

/-! ### One operation -/
/-- What an operation does, whatever the world is of which this is known. -/
def Does (P : Program) (X : Cx) (V : View) (G : Own) (s : Sem Next) (Q : Value → View → Own → Prop) : Prop :=
  ∀ w, Holds X V G w →
    (∃ v w' V' G', (s.run P w = .ok (.value v) w' ∨ (s.run P w = .ok .skip w' ∧ v = undef)) ∧ Q v V' G' ∧ Holds X V' G' w') ∨
    (∃ f args w', s.run P w = .ok (.enter f args) w' ∧ Calls P f args w' fun e w'' => ∃ v V' G', e = .returned v ∧ Q v V' G' ∧ Holds X V' G' w'')

def Opr (P : Program) (n : Nat) (X : Cx) (L : Lo) (V : View) (G : Own) (o : Oper) (Q : Value → View → Own → Prop) : Prop :=
  ∀ a, Knows n L a → Does P X V G (execOp a.eval o) Q

theorem wr_nil {all : Array Oper} (h : WE P n X L V G .normal K) : WR P n X L V G all [] K := fun a w ha hw => h a w ha hw

theorem Does.wp {o : Oper} {a : Act} {s : Sem Next} {Q : Value → View → Own → Prop} {w : World} {N : Act → World → Prop} {E : Exit → Act → World → Prop}
    (hs : execOp a.eval o = s) (h : Does P X V G s Q) (hw : Holds X V G w)
    (hN : ∀ v V' G' w', Q v V' G' → Holds X V' G' w' → N (a.put o.dst v) w') : o.wp P a w N E := by
  unfold Oper.wp
  rw [hs]
  rcases h w hw with ⟨v, w', V', G', hr, hq, hh⟩ | ⟨f, args, w', hr, hc⟩
  · rcases hr with hr | ⟨hr, rfl⟩
    · rw [hr]; exact hN v V' G' w' hq hh
    · rw [hr]; exact hN _ V' G' w' hq hh
  · rw [hr]
    refine hc.mono ?_
    rintro e w'' ⟨v, V', G', rfl, hq, hh⟩
    exact hN v V' G' w'' hq hh

theorem wr_cons {all : Array Oper} {o : Oper} {ops : List Oper} (hg : o.guard = none) (hd : okd n o.dst = true)
    (h : Opr P n X L V G o fun v V' G' => WR P n X (putL o.dst v L) V' G' all ops K) : WR P n X L V G all (o :: ops) K := by
  intro a w ha hw
  refine wpList_plain hg fun K' hK' => ?_
  exact Does.wp rfl (h a ha) hw fun v V' G' w' hq hh => hK' _ _ (hq _ _ (ha.put hd v) hh)

/-- A guarded operation whose guard says yes. -/
theorem wr_yes {all : Array Oper} {o : Oper} {ops : List Oper} {j : Nat} {b : Bool} {d : Nat} (hg : o.guard = some (j, b)) (hj : (all[j]?).bind (·.dst) = some d) (hb : lk L d = some (.bool b))
    (hd : okd n o.dst = true) (h : Opr P n X L V G o fun v V' G' => WR P n X (putL o.dst v L) V' G' all ops K) : WR P n X L V G all (o :: ops) K := by
  intro a w ha hw
  have hw' : Region.wanted o (yielded all a.tmps) = true := by
    simp [Region.wanted, hg, yielded, hj, ha.get d _ hb]
  refine wpList_step fun K' hK' => ?_
  rw [if_pos hw']
  exact Does.wp rfl (h a ha) hw fun v V' G' w' hq hh => hK' _ _ (hq _ _ (ha.put hd v) hh)
theorem wr_no {all : Array Oper} {o : Oper} {ops : List Oper} {j : Nat} {b : Bool} {d : Nat} (hg : o.guard = some (j, b)) (hj : (all[j]?).bind (·.dst) = some d) (hb : lk L d = some (.bool !b))
    (hd : okd n o.dst = true) (h : WR P n X (putL o.dst undef L) V G all ops K) : WR P n X L V G all (o :: ops) K := by
  intro a w ha hw
  have hw' : Region.wanted o (yielded all a.tmps) = false := by
    simp [Region.wanted, hg, yielded, hj, ha.get d _ hb]
  refine wpList_step fun K' hK' => ?_
  rw [if_neg (by simp [hw'])]
  exact hK' _ _ (h _ _ (ha.put hd undef) hw)

/-! ### A loop -/
theorem wc_loop {c : Code} (I : Lo → View → Own → Nat → Prop) {m0 : Nat}
    (h0 : I L V G m0) (round : ∀ L' V' G' m, I L' V' G' m → WC P n X L' V' G' c (.lp (fun a w => ∃ L2 V2 G2 m2, I L2 V2 G2 m2 ∧ m2 < m ∧ Knows n L2 a ∧ Holds X V2 G2 w) :: K)) :
    WC P n X L V G (.loop c) K := by
  intro a w ha hw b k cs
  have key : ∀ m L V G, I L V G m → ∀ a w, Knows n L a → Holds X V G w →
      ∃ e a' w', Post P X.R K e a' w' ∧ Arrives P (lone (b.at a (.code c :: .inLoop c :: k)) cs w) b k cs e a' w' := by
    intro m
    induction m using Nat.strongRecOn with
    | _ m ih =>
      intro L V G hI a w ha hw
      obtain ⟨e, a₁, w₁, hq, harr⟩ := round L V G m hI a w ha hw b (.inLoop c :: k) cs
      cases e with
      | normal =>
        simp only [Post] at hq
        obtain ⟨L2, V2, G2, m2, hI2, hlt, ha2, hw2⟩ := hq
        obtain ⟨e₂, a₂, w₂, hq₂, harr₂⟩ := ih m2 hlt L2 V2 G2 hI2 a₁ w₁ ha2 hw2
        exact ⟨e₂, a₂, w₂, hq₂, .of_steps (Steps.trans harr (.one step_inLoop)) harr₂⟩
      | exit id => exact ⟨_, a₁, w₁, hq, .pass (x := .inLoop c) rfl (fun _ _ => .inl (by simp)) harr⟩
      | goto l => exact ⟨_, a₁, w₁, hq, .pass (x := .inLoop c) rfl (fun _ _ => .inl (by simp)) harr⟩
      | ret => exact ⟨_, a₁, w₁, hq, .pass (x := .inLoop c) rfl (fun _ _ => .inl (by simp)) harr⟩
      | panic ch => exact ⟨_, a₁, w₁, hq, .pass (x := .inLoop c) rfl (fun _ _ => .inl (by simp)) harr⟩
      | outgrown => exact ⟨_, a₁, w₁, hq, .pass (x := .inLoop c) rfl (fun _ _ => .inl (by simp)) harr⟩
  obtain ⟨e, a', w', hq, harr⟩ := key m0 L V G h0 a w ha hw
  exact ⟨e, a', w', hq, .of_steps (.one step_loop) harr⟩
end
end Fly
