/-
  A small logic of walks: judgements, operations, regions, loops, calls. No condition.
-/
import Derived.Test.YtnegfdebjikfiaaGreatFlyG
section
namespace Fly
open Go

abbrev YT := Value → Own → View → Prop
def Mono (y : YT) : Prop := ∀ v E V V', Sub V V' → y v E V → y v E V'
/-- It yields just this, and makes no block that stays its own. -/
def fixY (c : Value) : YT := fun v E _ => v = c ∧ E = []
theorem fixY_mono (c : Value) : Mono (fixY c) := fun _ _ _ _ _ h => h
/-- It yields a value of which this is known. -/
def relY (R : Value → View → Prop) : YT := fun v E V => R v V ∧ E = []
theorem relY_mono {R : Value → View → Prop} (h : ∀ v V V', Sub V V' → R v V → R v V') : Mono (relY R) := fun v _ V V' hs hr => ⟨h v V V' hs hr.1, hr.2⟩
/-- It yields this if t, else nothing. -/
def optY (t : Bool) (c : Value) : YT := fun v E _ => (t = true → v = c) ∧ (t = false → v = undef) ∧ E = []
theorem optY_mono (t : Bool) (c : Value) : Mono (optY t c) := fun _ _ _ _ _ h => h

def topY : YT := fun _ _ _ => True
def Ysf (Ys : List YT) (j : Nat) : YT := Ys.getD j topY

def containsT : List Tmp → Tmp → Bool
  | [], _ => false
  | d :: ds, t => bif Nat.beq d t then true else containsT ds t
theorem containsT_iff (t : Tmp) : ∀ ds, containsT ds t = true ↔ t ∈ ds
  | [] => by simp [containsT]
  | d :: ds => by
    simp only [containsT]
    cases hb : Nat.beq d t with
    | true => have := Nat.eq_of_beq_eq_true hb; subst this; simp
    | false =>
      simp only [cond_false, containsT_iff t ds, List.mem_cons]
      constructor
      · exact .inr
      · rintro (h | h)
        · subst h; simp at hb
        · exact h
/-- What an operation looks at of those before it. -/
def selO (looks : List Tmp) : List Oper → List YT → Option (List (Tmp × YT))
  | o :: l, y :: Ys => match o.dst, selO looks l Ys with
    | some d, some r => match containsT looks d with
      | true => some ((d, y) :: r)
      | false => some r
    | _, _ => none
  | _, _ => some []
theorem selO_spec (looks : List Tmp) : ∀ (l : List Oper) (Ys : List YT) (A : List (Tmp × YT)), selO looks l Ys = some A → ∀ d y, (d, y) ∈ A → ∃ (j : Nat) (o : Oper), l[j]? = some o ∧ Ys[j]? = some y ∧ o.dst = some d ∧ d ∈ looks
  | [], Ys, A, h, d, y, hm => by simp [selO] at h; subst h; simp at hm
  | o :: l, [], A, h, d, y, hm => by simp [selO] at h; subst h; simp at hm
  | o :: l, y0 :: Ys, A, h, d, y, hm => by
    simp only [selO] at h
    split at h
    · rename_i d0 r hd hr
      split at h
      · rename_i hc
        simp only [Option.some.injEq] at h; subst h
        rcases List.mem_cons.1 hm with e | hm
        · simp only [Prod.mk.injEq] at e
          obtain ⟨rfl, rfl⟩ := e
          exact ⟨0, o, rfl, rfl, hd, (containsT_iff d looks).1 hc⟩
        · obtain ⟨j, o', h1, h2, h3⟩ := selO_spec looks l Ys r hr d y hm
          exact ⟨j + 1, o', by simpa using h1, by simpa using h2, h3⟩
      · simp only [Option.some.injEq] at h; subst h
        obtain ⟨j, o', h1, h2, h3⟩ := selO_spec looks l Ys r hr d y hm
        exact ⟨j + 1, o', by simpa using h1, by simpa using h2, h3⟩
    · cases h

/-- For whatever those yielded. -/
def Owe (V' : View) (K : Lo → Prop) : List (Tmp × YT) → Lo → Prop
  | [], L => K L
  | (d, y) :: A, L => ∀ v E, y v E V' → Owe V' K A ((d, v) :: L)
def FinL (V' : View) (K : Lo → Own → Prop) : List Oper → List YT → Lo → Own → Prop
  | o :: l, y :: Ys, L, E => ∀ v E', y v E' V' → FinL V' K l Ys (match o.dst with | some d => (d, v) :: L | none => L) (E ++ E')
  | _, _, L, E => K L E

theorem Owe_use {V' : View} {K : Lo → Prop} {vals : Nat → Value} {Es : Nat → Own} {l : List Oper} {Ys : List YT} : ∀ (A : List (Tmp × YT)) (L : Lo),
    (∀ d y, (d, y) ∈ A → ∃ (j : Nat) (o : Oper), l[j]? = some o ∧ Ys[j]? = some y ∧ o.dst = some d ∧ y (vals j) (Es j) V') → Owe V' K A L → ∃ L', K L' ∧ ∀ t v, lk L' t = some v → (∃ (j : Nat) (o : Oper), l[j]? = some o ∧ o.dst = some t ∧ v = vals j ∧ (∃ y, (t, y) ∈ A) ∧ j < Ys.length) ∨ lk L t = some v
  | [], L, _, h => ⟨L, h, fun _ _ h => .inr h⟩
  | (d, y) :: A, L, hA, h => by
    obtain ⟨j, o, hj, hY, hd, hy⟩ := hA d y (by simp)
    obtain ⟨L', hK, hL'⟩ := Owe_use A ((d, vals j) :: L) (fun d' y' hm => hA d' y' (by simp [hm])) (h _ _ hy)
    refine ⟨L', hK, fun t v ht => ?_⟩
    rcases hL' t v ht with ⟨j', o', h1, h2, h3, ⟨y', h4⟩, h5⟩ | ht
    · exact .inl ⟨j', o', h1, h2, h3, ⟨y', by simp [h4]⟩, h5⟩
    · simp only [lk] at ht
      cases hb : Nat.beq d t with
      | true =>
        rw [hb] at ht
        have := Nat.eq_of_beq_eq_true hb
        subst this
        simp only [cond_true, Option.some.injEq] at ht
        exact .inl ⟨j, o, hj, hd, ht.symm, ⟨y, by simp⟩, (List.getElem?_eq_some_iff.1 hY).1⟩
      | false => rw [hb] at ht; exact .inr ht

/-- What is owed of one operation, on what it looks at. -/
def One (P : Program) (n : Nat) (X : Cx) (V' : View) (G' : Own) (l : List Oper) (o : Oper) (y : YT) (L' : Lo) : Prop :=
  match o.guard with
  | none => Opr P n X L' V' G' o fun v V'' G'' => Sub V' V'' ∧ ∃ E, G''.Perm (E ++ G') ∧ y v E V''
  | some (g, b) => ∃ d t, (l[g]?).bind (·.dst) = some d ∧ lk L' d = some (.bool t) ∧ (t = b → Opr P n X L' V' G' o fun v V'' G'' => Sub V' V'' ∧ ∃ E, G''.Perm (E ++ G') ∧ y v E V'') ∧ (t = !b → y undef [] V')

/-- The way through the first part: r operations are still to come. -/
inductive Prog (P : Program) (n : Nat) (X : Cx) (L : Lo) (V : View) (G : Own) (K : List KI) (l : List Oper) (m : Nat) : List YT → Nat → Prop
  | done {Ys : List YT} (h : ∀ V', Sub V V' → FinL V' (fun L' E => WR P n X L' V' (E ++ G) l.toArray (l.drop m) K) (l.take m) Ys L []) : Prog P n X L V G K l m Ys 0
  | step {Ys : List YT} {r : Nat} {o : Oper} {A : List (Tmp × YT)} (y : YT) (hy : Mono y) (ho : l[Ys.length]? = some o) (hA : selO (o.looksAt l.toArray) l Ys = some A)
      (h : ∀ V' F, Sub V V' → Owe V' (One P n X V' (F ++ G) l o y) A L) (k : Prog P n X L V G K l m (Ys ++ [y]) r) : Prog P n X L V G K l m Ys (r + 1)

theorem FinL_use {V' : View} {K : Lo → Own → Prop} {vals : Nat → Value} {Es : Nat → Own} {l : List Oper} {m : Nat} (hm : m ≤ l.length) {Ys : List YT} {L : Lo} (hY : Ys.length = m) (hf : ∀ j, j < m → Ysf Ys j (vals j) (Es j) V') : ∀ (r k : Nat), k + r = m →
    FinL V' K ((l.take m).drop k) (Ys.drop k) (allL l vals L k) (flatA Es k) → K (allL l vals L m) (flatA Es m)
  | 0, k, hk, h => by
    have hkm : k = m := by omega
    subst hkm
    rw [List.drop_of_length_le (by simp; omega)] at h
    simpa [FinL] using h
  | r + 1, k, hk, h => by
    have hkm : k < m := by omega
    have h1 : (l.take m).drop k = l[k]'(by omega) :: (l.take m).drop (k + 1) := by
      rw [List.drop_eq_getElem_cons (by simp; omega)]; simp
    have h2 : Ys.drop k = Ys[k]'(by omega) :: Ys.drop (k + 1) := List.drop_eq_getElem_cons (by omega)
    rw [h1, h2] at h
    simp only [FinL] at h
    have hy := hf k hkm
    have hyk : Ysf Ys k = Ys[k]'(by omega) := by unfold Ysf; rw [List.getD_eq_getElem?_getD, List.getElem?_eq_getElem (by omega)]; rfl
    rw [hyk] at hy
    have h3 := h _ _ hy
    refine FinL_use hm hY hf r (k + 1) (by omega) ?_
    simp only [allL, flatA]
    have hlk : l[k]? = some (l[k]'(by omega)) := List.getElem?_eq_getElem (by omega)
    rw [hlk]
    simp only [Option.bind_some]
    exact h3

section
variable {P : Program} {n : Nat} {X : Cx} {L : Lo} {V : View} {G : Own} {K : List KI}

theorem depL_has {l : List Oper} {ms : List Nat} {m : Nat} (hP : pairB l ms m = true) {vals : Nat → Value} {i j : Nat} {o : Oper} {t : Tmp} (hj : l[j]? = some o) (hd : o.dst = some t) (ha : ancB ms i j = true) (hjm : j < m) : ∀ k, j < k → k ≤ m → lk (depL l ms vals i L k) t = some (vals j)
  | 0, h, _ => by omega
  | k + 1, h, hk => by
    simp only [depL]
    by_cases hjk : j = k
    · subst hjk
      simp [ha, hj, hd, lk]
    · have ih := depL_has hP (vals := vals) hj hd ha hjm k (by omega) (by omega)
      cases hb : ancB ms i k with
      | false => simpa using ih
      | true =>
        simp only [cond_true]
        cases hlk : l[k]? with
        | none => simpa using ih
        | some ok =>
          cases hdk : ok.dst with
          | none => simpa [hdk] using ih
          | some dk =>
            obtain ⟨d', hd', ho'⟩ := pairB_spec hP hjm hj
            rw [hd] at hd'; simp only [Option.some.injEq] at hd'; subst hd'
            have hne := (ho' k ok (by omega) hlk (Ne.symm hjk)).1
            have hb' : Nat.beq dk t = false := by
              cases hq : Nat.beq dk t with
              | false => rfl
              | true => exact absurd (by rw [hdk, Nat.eq_of_beq_eq_true hq]) hne
            simpa [hdk, lk, hb'] using ih
theorem depL_old {l : List Oper} {ms : List Nat} {vals : Nat → Value} {i : Nat} {t : Tmp} {v : Value} {m : Nat} (hn : t ∉ dstsOf (l.take m)) (h : lk L t = some v) : ∀ k, k ≤ m → lk (depL l ms vals i L k) t = some v
  | 0, _ => h
  | k + 1, hk => by
    have ih := depL_old (ms := ms) (vals := vals) (i := i) hn h k (by omega)
    simp only [depL]
    cases hb : ancB ms i k with
    | false => simpa using ih
    | true =>
      simp only [cond_true]
      cases hlk : l[k]? with
      | none => simpa using ih
      | some ok =>
        cases hdk : ok.dst with
        | none => simpa [hdk] using ih
        | some dk =>
          have hb' : Nat.beq dk t = false := by
            cases hq : Nat.beq dk t with
            | false => rfl
            | true =>
              refine absurd (List.mem_filterMap.2 ⟨ok, List.mem_iff_getElem?.2 ⟨k, ?_⟩, ?_⟩) hn
              · simp [show k < m by omega, hlk]
              · rw [hdk, Nat.eq_of_beq_eq_true hq]
          simpa [hdk, lk, hb'] using ih
theorem Opr_mono {L' : Lo} {V' : View} {G' : Own} {o : Oper} {Q : Value → View → Own → Prop} (h : Opr P n X L' V' G' o Q) (hL : ∀ t v, lk L' t = some v → lk L t = some v) : Opr P n X L V' G' o Q :=
  fun a ha => h a ⟨ha.defers, ha.size, fun t v e => ha.get t v (hL t v e)⟩

theorem Prog_use {l : List Oper} {ms : List Nat} {m : Nat} {L0 : Lo} (hc : chkB n l ms m = true) (hL : maskO (dstsOf (l.take m)) L0 = some L) {Ys : List YT} {r : Nat} (h : Prog P n X L V G K l m Ys r) : Ys.length + r = m → (∀ i, i < Ys.length → Mono (Ysf Ys i)) →
    ∃ Yf : List YT, Yf.length = m ∧ (∀ i, i < Ys.length → Ysf Yf i = Ysf Ys i) ∧ (∀ i, i < m → Mono (Ysf Yf i)) ∧ (∀ (i : Nat) (o : Oper), Ys.length ≤ i → i < m → l[i]? = some o → Owed P n X L V G l ms (Ysf Yf) i o) ∧
      (∀ V', Sub V V' → FinL V' (fun L' E => WR P n X L' V' (E ++ G) l.toArray (l.drop m) K) (l.take m) Yf L []) := by
  have hc' := hc
  simp only [chkB, Bool.and_eq_true] at hc'
  obtain ⟨⟨⟨⟨⟨⟨hGd, hdst⟩, hE⟩, hP⟩, hT⟩, hml⟩, hS⟩ := hc'
  have hmsk := maskO_spec _ _ _ hL
  induction h with
  | @done Ys hd => intro hlen hmono; exact ⟨Ys, by omega, fun _ _ => rfl, fun i hi => hmono i (by omega), fun i _ h1 h2 => by omega, hd⟩
  | @step Ys r o A y hy ho hA h _ ih =>
    intro hlen hmono
    obtain ⟨Yf, h1, h2, h3, h4, h5⟩ := ih (by simp; omega) (fun i hi => by
      simp only [List.length_append, List.length_singleton] at hi
      by_cases hlt : i < Ys.length
      · have : Ysf (Ys ++ [y]) i = Ysf Ys i := by unfold Ysf; simp [List.getD_eq_getElem?_getD, List.getElem?_append_left hlt]
        rw [this]; exact hmono i hlt
      · have hie : i = Ys.length := by omega
        subst hie
        have : Ysf (Ys ++ [y]) Ys.length = y := by unfold Ysf; simp
        rw [this]; exact hy)
    have hYi : Ysf Yf Ys.length = y := by rw [h2 Ys.length (by simp)]; unfold Ysf; simp
    have hYl : ∀ i, i < Ys.length → Ysf Yf i = Ysf Ys i := fun i hi => by
      rw [h2 i (by simp; omega)]; unfold Ysf; simp [List.getD_eq_getElem?_getD, List.getElem?_append_left hi]
    refine ⟨Yf, h1, hYl, h3, fun i o' hi him ho' => ?_, h5⟩
    by_cases hie : i = Ys.length
    · subst hie
      rw [ho] at ho'; simp only [Option.some.injEq] at ho'; subst ho'
      intro vals Es V' F hs hfacts
      have hsel := selO_spec _ _ _ _ hA
      have hAf : ∀ d y, (d, y) ∈ A → ∃ (j : Nat) (o : Oper), l[j]? = some o ∧ Ys[j]? = some y ∧ o.dst = some d ∧ y (vals j) (Es j) V' := fun d y hm => by
        obtain ⟨j, oj, hj, hYj, hdj, hlook⟩ := hsel d y hm
        have hjl : j < Ys.length := (List.getElem?_eq_some_iff.1 hYj).1
        obtain ⟨d', hd', hoth⟩ := pairB_spec hP (show j < m by omega) hj
        rw [hdj] at hd'; simp only [Option.some.injEq] at hd'; subst hd'
        have hanc := (hoth Ys.length o him ho (by omega)).2 hlook
        have hfact := hfacts j hjl hanc
        rw [hYl j hjl] at hfact
        have : Ysf Ys j = y := by unfold Ysf; rw [List.getD_eq_getElem?_getD, hYj]; rfl
        rw [this] at hfact
        exact ⟨j, oj, hj, hYj, hdj, hfact⟩
      obtain ⟨L', hK, hL'⟩ := Owe_use A L hAf (h V' F hs)
      have hincl : ∀ t v, lk L' t = some v → lk (depL l ms vals Ys.length L Ys.length) t = some v := fun t v ht => by
        rcases hL' t v ht with ⟨j, oj, hj, hdj, rfl, ⟨y', hm⟩, hjl⟩ | ht
        · obtain ⟨j2, oj2, hj2, hYj2, hdj2, hlook⟩ := hsel t y' hm
          obtain ⟨d', hd', hoth⟩ := pairB_spec hP (show j < m by omega) hj
          rw [hdj] at hd'; simp only [Option.some.injEq] at hd'; subst hd'
          exact depL_has hP hj hdj ((hoth Ys.length o him ho (by omega)).2 hlook) (by omega) _ hjl (by omega)
        · exact depL_old (hmsk t v ht).1 ht _ (by omega)
      unfold One at hK
      rw [hYi]
      split at hK
      · rename_i hg
        rw [hg]
        exact Opr_mono hK hincl
      · rename_i g b hg
        rw [hg]
        obtain ⟨d, t, hd, ht, hyes, hno⟩ := hK
        obtain ⟨hgi, hga⟩ := guardB_spec hGd him ho hg
        refine ⟨t, ?_, hga, hgi, fun e => Opr_mono (hyes e) hincl, hno⟩
        have hgl : g < l.length := by have := Nat.le_of_ble_eq_true hml; omega
        have hdg : (l[g]).dst = some d := by simpa [hgl] using hd
        have hx := hincl d _ ht
        rw [depL_has hP (show l[g]? = some l[g] by simp [hgl]) hdg hga (by omega) _ hgi (by omega)] at hx
        simpa using hx
    · exact h4 i o' (by simp; omega) him ho'

/-- **HOW A REGION THAT DRAWS ITS ORDER IS WALKED.** -/
theorem wc_draws {Lm : Lo} {id : Nat} {l : List Oper} (m : Nat) {ms : List Nat} (hm : P.follows .mixedOrders = true) (hms : masks l [] = ms) (hc : chkB n l ms m = true) (hL : maskO (dstsOf (l.take m)) L = some Lm)
    (h : Prog P n X Lm V G K l m [] m) : WC P n X L V G (.region id l.toArray true) K := by
  obtain ⟨Yf, h1, _, h3, h4, h5⟩ := Prog_use hc hL h (by simp) (fun i hi => by simp at hi)
  have hml : m ≤ l.length := by
    simp only [chkB, Bool.and_eq_true] at hc
    exact Nat.le_of_ble_eq_true hc.1.2
  refine wc_drawn m (Ysf Yf) hm hms hc hL (fun i v E V V' hs hy => ?_) (fun i o hi ho => h4 i o (by simp) hi ho) (fun vals Es V' hs hf => ?_)
  · by_cases hi : i < m
    · exact h3 i hi v E V V' hs hy
    · have : Ysf Yf i = topY := by unfold Ysf; rw [List.getD_eq_getElem?_getD, List.getElem?_eq_none (by omega)]; rfl
      rw [this]; trivial
  · have := FinL_use (K := fun L' E => WR P n X L' V' (E ++ G) l.toArray (l.drop m) K) hml h1 hf m 0 (by omega) (by simpa [allL, flatA] using h5 V' hs)
    exact this
end
end Fly
end
section
namespace Fly
open Go
/-- A slice just made. -/
def sliceR (m : Nat) (l : List Value) (e : TypeId) (v : Value) (V : View) : Prop := ∃ b, v = .slice (some ⟨b, 0, none⟩) m m ∧ V b = some (.cells l.toArray e (0, 0))
theorem sliceR_mono {m : Nat} {l : List Value} {e : TypeId} : ∀ v V V', Sub V V' → sliceR m l e v V → sliceR m l e v V' := fun _ _ _ hs ⟨b, h1, h2⟩ => ⟨b, h1, hs _ _ h2⟩
/-- A block just made, its own. -/
def newY (z : List Value) (e : TypeId) : YT := fun v E _ => ∃ b, v = .pointer (some ⟨b, 0, none⟩) ∧ E = [(b, .cells z.toArray e (0, 0))]
theorem newY_mono (z : List Value) (e : TypeId) : Mono (newY z e) := fun _ _ _ _ _ h => h
theorem Has.app {F G : Own} {b : Nat} {o : Obj} (h : Has G b o) : Has (F ++ G) b o := by
  induction F with
  | nil => exact h
  | cons p F ih => exact .there ih
section
variable {P : Program} {n : Nat} {X : Cx} {L : Lo} {V V' : View} {G G' : Own} {K : List KI} {Q : Value → View → Own → Prop} {KL : Lo → Prop} {KE : Lo → Own → Prop} {A : List (Tmp × YT)} {l all ops : List Oper} {Ys : List YT} {E : Own}
variable {op : Op} {ty : TypeId} {pos : String} {af : Array Edge} {gd : Option (Nat × Bool)} {ds : Option Tmp} {d : Tmp}
theorem owe_nil (h : KL L) : Owe V' KL [] L := h
theorem owe_fix {c : Value} (h : Owe V' KL A ((d, c) :: L)) : Owe V' KL ((d, fixY c) :: A) L := by rintro _ _ ⟨rfl, _⟩; exact h
theorem owe_rel {R : Value → View → Prop} (h : ∀ v, R v V' → Owe V' KL A ((d, v) :: L)) : Owe V' KL ((d, relY R) :: A) L := fun v _ hr => h v hr.1
theorem owe_opt {t : Bool} {c : Value} (h1 : t = true → Owe V' KL A ((d, c) :: L)) (h0 : t = false → Owe V' KL A ((d, undef) :: L)) : Owe V' KL ((d, optY t c) :: A) L := by
  rintro v _ ⟨h2, h3, _⟩
  cases t with
  | true => rw [h2 rfl]; exact h1 rfl
  | false => rw [h3 rfl]; exact h0 rfl
theorem one_plain {y : YT} (h : Opr P n X L V' G' ⟨ds, op, ty, pos, af, none⟩ fun v V'' G'' => Sub V' V'' ∧ ∃ E, G''.Perm (E ++ G') ∧ y v E V'') : One P n X V' G' l ⟨ds, op, ty, pos, af, none⟩ y L := h
theorem one_guard {y : YT} {g d : Nat} {b t : Bool} (hd : (l[g]?).bind (·.dst) = some d) (ht : lk L d = some (.bool t)) (h : t = b → Opr P n X L V' G' ⟨ds, op, ty, pos, af, some (g, b)⟩ fun v V'' G'' => Sub V' V'' ∧ ∃ E, G''.Perm (E ++ G') ∧ y v E V'') (h0 : t = !b → y undef [] V') :
    One P n X V' G' l ⟨ds, op, ty, pos, af, some (g, b)⟩ y L := ⟨d, t, hd, ht, h, h0⟩
theorem y_fix {c : Value} : Sub V' V' ∧ ∃ E, G'.Perm (E ++ G') ∧ fixY c c E V' := ⟨Sub.refl _, [], List.Perm.refl _, rfl, rfl⟩
theorem y_opt {c : Value} {t : Bool} (h : t = true) : Sub V' V' ∧ ∃ E, G'.Perm (E ++ G') ∧ optY t c c E V' := ⟨Sub.refl _, [], List.Perm.refl _, fun _ => rfl, fun e => (by rw [h] at e; cases e), rfl⟩
theorem y_rel {V'' : View} {R : Value → View → Prop} {v : Value} (hs : Sub V' V'') (h : R v V'') : Sub V' V'' ∧ ∃ E, G'.Perm (E ++ G') ∧ relY R v E V'' := ⟨hs, [], List.Perm.refl _, h, rfl⟩
theorem y_new {z : List Value} {e : TypeId} {b : Nat} : Sub V' V' ∧ ∃ E, List.Perm ((b, Obj.cells z.toArray e (0, 0)) :: G') (E ++ G') ∧ newY z e (.pointer (some ⟨b, 0, none⟩)) E V' := ⟨Sub.refl _, _, List.Perm.refl ([_] ++ G'), b, rfl, rfl⟩
theorem finl_fix {c : Value} (h : FinL V' KE l Ys ((d, c) :: L) E) : FinL V' KE (⟨some d, op, ty, pos, af, gd⟩ :: l) (fixY c :: Ys) L E := by rintro _ _ ⟨rfl, rfl⟩; simpa using h
theorem finl_rel {R : Value → View → Prop} (h : ∀ v, R v V' → FinL V' KE l Ys ((d, v) :: L) E) : FinL V' KE (⟨some d, op, ty, pos, af, gd⟩ :: l) (relY R :: Ys) L E := by rintro v _ ⟨hr, rfl⟩; simpa using h v hr
theorem finl_opt {t : Bool} {c : Value} (h1 : t = true → FinL V' KE l Ys ((d, c) :: L) E) (h0 : t = false → FinL V' KE l Ys ((d, undef) :: L) E) : FinL V' KE (⟨some d, op, ty, pos, af, gd⟩ :: l) (optY t c :: Ys) L E := by
  rintro v _ ⟨h2, h3, rfl⟩
  cases t with
  | true => rw [h2 rfl]; simpa using h1 rfl
  | false => rw [h3 rfl]; simpa using h0 rfl
theorem finl_new {z : List Value} {e : TypeId} (h : ∀ b, FinL V' KE l Ys ((d, .pointer (some ⟨b, 0, none⟩)) :: L) (E ++ [(b, .cells z.toArray e (0, 0))])) : FinL V' KE (⟨some d, op, ty, pos, af, gd⟩ :: l) (newY z e :: Ys) L E := by rintro _ _ ⟨b, rfl, rfl⟩; exact h b
theorem finl_end {al : Array Oper} (h : WR P n X L V' G al ops K) : FinL V' (fun L' E => WR P n X L' V' (E ++ G) al ops K) [] [] L [] := h
theorem finl_end1 {al : Array Oper} {p : Nat × Obj} (h : WR P n X L V' (p :: G) al ops K) : FinL V' (fun L' E => WR P n X L' V' (E ++ G) al ops K) [] [] L ([] ++ [p]) := h
theorem y_slice {m : Nat} {r : List Value} {e : TypeId} {b : Nat} (h : V' b = none) : Sub V' (addV V' b (.cells r.toArray e (0, 0))) ∧ ∃ E, G'.Perm (E ++ G') ∧ relY (sliceR m r e) (.slice (some ⟨b, 0, none⟩) m m) E (addV V' b (.cells r.toArray e (0, 0))) :=
  ⟨Sub.addV h, [], List.Perm.refl _, ⟨b, rfl, by simp⟩, rfl⟩
end
end Fly
end
