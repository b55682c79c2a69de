/-
  Trees and what they stand for; a statement reads its arguments as trees. No condition.
-/
import Derived.Test.YtdmomplfmfhoiaaGreatDoorShC
namespace Sh
open Go Fly

mutual
inductive Rep (V : View) : T → Value → Prop
  | s {v : Value} (h : isSc v = true) : Rep V (.s v) v
  | agg {l : List T} {vs : List Value} (h : RepA V l vs) (hc : ∀ x ∈ l, x.isAgg = false) : Rep V (.agg l) (.agg vs.toArray)
  | sl {k : Nat} {l : List T} {vs : List Value} {a : Option Addr} {cap : Nat} (h : RepA V (l.flatMap T.cells) vs) (hc : ∀ x ∈ l.flatMap T.cells, x.isAgg = false) (hw : ∀ x ∈ l, x.cells.length = k)
      (h1 : l.length ≤ cap) (h2 : cap ≤ maxLen) (h3 : l = [] ∨ ∃ b off, a = some ⟨b, off, none⟩ ∧ ∀ j c, vs[j]? = some c → rd V b (off + j) c) : Rep V (.sl k l) (.slice a l.length cap)
  | pt {x : T} {off b o : Nat} {vs : List Value} (h : RepA V x.cells vs) (hc : ∀ y ∈ x.cells, y.isAgg = false) (h1 : ∀ j c, vs[j]? = some c → rd V b (o + j) c) : Rep V (.pt x off) (.pointer (some ⟨b, o + off, none⟩))
  | fn {f : Nat} {a b : List T} {va vb : List Value} (h : RepA V a va) (h' : RepA V b vb) : Rep V (.fn f a b) (.func (.func f) va.toArray vb.toArray)
inductive RepA (V : View) : List T → List Value → Prop
  | nil : RepA V [] []
  | cons {x : T} {v : Value} {l : List T} {vs : List Value} (h : Rep V x v) (h' : RepA V l vs) : RepA V (x :: l) (v :: vs)
end
mutual
theorem Rep.mono {V V' : View} (hs : Sub V V') : ∀ {x : T} {v : Value}, Rep V x v → Rep V' x v
  | _, _, .s h => .s h
  | _, _, .agg h hc => .agg (RepA.mono hs h) hc
  | _, _, .sl h hc hw h1 h2 h3 => .sl (RepA.mono hs h) hc hw h1 h2 (h3.imp id fun ⟨b, off, e, h⟩ => ⟨b, off, e, fun j c hj => (h j c hj).mono hs⟩)
  | _, _, .pt h hc h1 => .pt (RepA.mono hs h) hc fun j c hj => (h1 j c hj).mono hs
  | _, _, .fn h h' => .fn (RepA.mono hs h) (RepA.mono hs h')
theorem RepA.mono {V V' : View} (hs : Sub V V') : ∀ {l : List T} {vs : List Value}, RepA V l vs → RepA V' l vs
  | _, _, .nil => .nil
  | _, _, .cons h h' => .cons (Rep.mono hs h) (RepA.mono hs h')
end
theorem RepA.length {V : View} : ∀ {l : List T} {vs : List Value}, RepA V l vs → l.length = vs.length
  | _, _, .nil => rfl
  | _, _, .cons _ h => by simp [h.length]
theorem RepA.append {V : View} : ∀ {l : List T} {vs : List Value} {l' : List T} {vs' : List Value}, RepA V l vs → RepA V l' vs' → RepA V (l ++ l') (vs ++ vs')
  | _, _, _, _, .nil, h => h
  | _, _, _, _, .cons h h', h2 => .cons h (h'.append h2)
theorem RepA.get {V : View} : ∀ {l : List T} {vs : List Value}, RepA V l vs → ∀ {i : Nat} {x : T}, l[i]? = some x → ∃ v, vs[i]? = some v ∧ Rep V x v
  | _, _, .nil, i, x, h => by simp at h
  | _, _, .cons (v := v) h h', 0, x, e => by simp at e; subst e; exact ⟨v, by simp, h⟩
  | _, _, .cons h h', i + 1, x, e => by simp at e ⊢; exact h'.get e
theorem RepA.drop {V : View} : ∀ (n : Nat) {l : List T} {vs : List Value}, RepA V l vs → RepA V (l.drop n) (vs.drop n)
  | 0, _, _, h => h
  | n + 1, _, _, .nil => .nil
  | n + 1, _, _, .cons _ h => by simpa using h.drop n
theorem RepA.take {V : View} : ∀ (n : Nat) {l : List T} {vs : List Value}, RepA V l vs → RepA V (l.take n) (vs.take n)
  | 0, _, _, _ => .nil
  | n + 1, _, _, .nil => .nil
  | n + 1, _, _, .cons h h' => .cons h (h'.take n)
theorem RepA.split {V : View} {l l' : List T} {vs : List Value} (h : RepA V (l ++ l') vs) : ∃ v1 v2, vs = v1 ++ v2 ∧ RepA V l v1 ∧ RepA V l' v2 := by
  refine ⟨vs.take l.length, vs.drop l.length, (List.take_append_drop _ _).symm, ?_, ?_⟩
  · simpa using h.take l.length
  · simpa using h.drop l.length
theorem Rep.cells {V : View} {x : T} {v : Value} (h : Rep V x v) : ∃ vs : List Value, v.cells = vs.toArray ∧ RepA V x.cells vs ∧ ∀ y ∈ x.cells, y.isAgg = false := by
  cases h with
  | s h => exact ⟨[v], by cases v <;> simp [isSc] at h <;> rfl, .cons (.s h) .nil, by simp [T.cells, T.isAgg]⟩
  | agg h hc => exact ⟨_, by simp [Value.cells], h, hc⟩
  | sl h hc hw h1 h2 h3 => exact ⟨[_], rfl, .cons (.sl h hc hw h1 h2 h3) .nil, by simp [T.cells, T.isAgg]⟩
  | pt h hc h1 => exact ⟨[_], rfl, .cons (.pt h hc h1) .nil, by simp [T.cells, T.isAgg]⟩
  | fn h h' => exact ⟨[_], rfl, .cons (.fn h h') .nil, by simp [T.cells, T.isAgg]⟩
theorem Rep.one {V : View} {x : T} {v : Value} (h : Rep V x v) (hx : x.isAgg = false) : v.oneCell' = true ∧ v.cells = #[v] := by
  cases h with
  | s h => cases v <;> simp [isSc] at h <;> exact ⟨rfl, rfl⟩
  | agg h hc => simp [T.isAgg] at hx
  | sl h hc hw h1 h2 h3 => exact ⟨rfl, rfl⟩
  | pt h hc h1 => exact ⟨rfl, rfl⟩
  | fn h h' => exact ⟨rfl, rfl⟩

/-! ### Own memory -/
inductive IE where
  | blk (b : Nat)
  | row (b k ct : Nat)
  | vrow
mutual
inductive RepS (V : View) (I : List IE) : SV → Value → Prop
  | t {x : T} {v : Value} (h : Rep V x v) : RepS V I (.t x) v
  | un : RepS V I .un undef
  | bad {v : Value} : RepS V I .bad v
  | ref {n off b : Nat} (h : I[n]? = some (.blk b)) : RepS V I (.ref n off) (.pointer (some ⟨b, off, none⟩))
  | osl {n off len b k ct : Nat} (h : I[n]? = some (.row b k ct)) (h1 : off + len ≤ ct) (h2 : ct ≤ maxLen) : RepS V I (.osl n off len) (.slice (some ⟨b, off * k, none⟩) len (ct - off))
  | osl0 {n off cap : Nat} {a : Option Addr} (h0 : off ≠ 0) (h : cap ≤ maxLen) : RepS V I (.osl n off 0) (.slice a 0 cap)
  | oslv {n : Nat} (h : I[n]? = some .vrow) : RepS V I (.osl n 0 0) (.slice none 0 0)
  | ep {n i off b k ct : Nat} (h : I[n]? = some (.row b k ct)) : RepS V I (.ep n i off) (.pointer (some ⟨b, i * k + off, none⟩))
  | clo {f : Nat} {a b : List SV} {va vb : List Value} (h : RepSs V I a va) (h' : RepSs V I b vb) : RepS V I (.clo f a b) (.func (.func f) va.toArray vb.toArray)
  | tup {l : List SV} {vs : List Value} (h : RepSs V I l vs) : RepS V I (.tup l) (.tuple vs.toArray)
inductive RepSs (V : View) (I : List IE) : List SV → List Value → Prop
  | nil : RepSs V I [] []
  | cons {x : SV} {v : Value} {l : List SV} {vs : List Value} (h : RepS V I x v) (h' : RepSs V I l vs) : RepSs V I (x :: l) (v :: vs)
end
/-- What a change of names does to a word that is no list. -/
def Leaf (V V' : View) (I I' : List IE) (g : SV → SV) : Prop := ∀ x v, RepS V I x v → (∀ f a b, x ≠ .clo f a b) → (∀ l, x ≠ .tup l) → RepS V' I' (g x) v
mutual
theorem RepS.map {V V' : View} {I I' : List IE} {g : SV → SV} (hg : Leaf V V' I I' g) : ∀ {x : SV} {v : Value}, RepS V I x v → RepS V' I' (x.mp g) v
  | _, _, .t h => hg _ _ (.t h) (by intros; simp) (by intros; simp)
  | _, _, .un => hg _ _ .un (by intros; simp) (by intros; simp)
  | _, _, .bad => hg _ _ .bad (by intros; simp) (by intros; simp)
  | _, _, .ref h => hg _ _ (.ref h) (by intros; simp) (by intros; simp)
  | _, _, .osl h h1 h2 => hg _ _ (.osl h h1 h2) (by intros; simp) (by intros; simp)
  | _, _, .osl0 h0 h => hg _ _ (.osl0 h0 h) (by intros; simp) (by intros; simp)
  | _, _, .oslv h => hg _ _ (.oslv h) (by intros; simp) (by intros; simp)
  | _, _, .ep h => hg _ _ (.ep h) (by intros; simp) (by intros; simp)
  | _, _, .clo h h' => .clo (RepSs.map hg h) (RepSs.map hg h')
  | _, _, .tup h => .tup (RepSs.map hg h)
theorem RepSs.map {V V' : View} {I I' : List IE} {g : SV → SV} (hg : Leaf V V' I I' g) : ∀ {l : List SV} {vs : List Value}, RepSs V I l vs → RepSs V' I' (mpL g l) vs
  | _, _, .nil => .nil
  | _, _, .cons h h' => .cons (RepS.map hg h) (RepSs.map hg h')
end
def Ile (I I' : List IE) : Prop := ∀ (n : Nat) (ie : IE), I[n]? = some ie → I'[n]? = some ie
mutual
theorem RepS.mono {V V' : View} {I I' : List IE} (hs : Sub V V') (hI : Ile I I') : ∀ {x : SV} {v : Value}, RepS V I x v → RepS V' I' x v
  | _, _, .t h => .t (h.mono hs)
  | _, _, .un => .un
  | _, _, .bad => .bad
  | _, _, .ref h => .ref (hI _ _ h)
  | _, _, .osl h h1 h2 => .osl (hI _ _ h) h1 h2
  | _, _, .osl0 h0 h => .osl0 h0 h
  | _, _, .oslv h => .oslv (hI _ _ h)
  | _, _, .ep h => .ep (hI _ _ h)
  | _, _, .clo h h' => .clo (RepSs.mono hs hI h) (RepSs.mono hs hI h')
  | _, _, .tup h => .tup (RepSs.mono hs hI h)
theorem RepSs.mono {V V' : View} {I I' : List IE} (hs : Sub V V') (hI : Ile I I') : ∀ {l : List SV} {vs : List Value}, RepSs V I l vs → RepSs V' I' l vs
  | _, _, .nil => .nil
  | _, _, .cons h h' => .cons (RepS.mono hs hI h) (RepSs.mono hs hI h')
end
theorem Ile.refl (I : List IE) : Ile I I := fun _ _ h => h
theorem Ile.app (I I' : List IE) : Ile I (I ++ I') := fun n ie h => by
  have : n < I.length := (List.getElem?_eq_some_iff.1 h).1
  rw [List.getElem?_append_left this]; exact h
theorem RepSs.length {V : View} {I : List IE} : ∀ {l : List SV} {vs : List Value}, RepSs V I l vs → l.length = vs.length
  | _, _, .nil => rfl
  | _, _, .cons _ h => by simp [h.length]
theorem RepSs.append {V : View} {I : List IE} : ∀ {l : List SV} {vs : List Value} {l' : List SV} {vs' : List Value}, RepSs V I l vs → RepSs V I l' vs' → RepSs V I (l ++ l') (vs ++ vs')
  | _, _, _, _, .nil, h => h
  | _, _, _, _, .cons h h', h2 => .cons h (h'.append h2)
theorem RepSs.get {V : View} {I : List IE} : ∀ {l : List SV} {vs : List Value}, RepSs V I l vs → ∀ {i : Nat} {x : SV}, l[i]? = some x → ∃ v, vs[i]? = some v ∧ RepS V I x v
  | _, _, .nil, i, x, h => by simp at h
  | _, _, .cons (v := v) h h', 0, x, e => by simp at e; subst e; exact ⟨v, by simp, h⟩
  | _, _, .cons h h', i + 1, x, e => by simp at e ⊢; exact h'.get e
theorem RepSs.ofT {V : View} {I : List IE} : ∀ {l : List T} {vs : List Value}, RepA V l vs → RepSs V I (mpT l) vs
  | _, _, .nil => .nil
  | _, _, .cons h h' => .cons (.t h) (RepSs.ofT h')
theorem RepSs.asTs {V : View} {I : List IE} : ∀ {l : List SV} {vs : List Value} {xs : List T}, RepSs V I l vs → asTs l = some xs → RepA V xs vs
  | _, _, xs, .nil, e => by simp only [Sh.asTs, Option.some.injEq] at e; subst e; exact .nil
  | .t x :: l, _, xs, .cons h h', e => by
    simp only [Sh.asTs] at e
    cases hq : Sh.asTs l with
    | none => rw [hq] at e; simp at e
    | some r =>
      rw [hq] at e; simp only [Option.bind_some, Option.some.injEq] at e; subst e
      cases h with | t h => exact .cons h (RepSs.asTs h' hq)
  | .un :: _, _, _, _, e | .bad :: _, _, _, _, e | .ref _ _ :: _, _, _, _, e | .osl _ _ _ :: _, _, _, _, e | .ep _ _ _ :: _, _, _, _, e | .clo _ _ _ :: _, _, _, _, e | .tup _ :: _, _, _, _, e => by simp [Sh.asTs] at e

def cellS : SV → Bool
  | .t x => !x.isAgg
  | .tup _ => false
  | .un => false
  | _ => true
/-- An own block: what it is called in the machine, and what lies there. -/
inductive RepOB (V : View) (I : List IE) : OB → IE → Own → Prop
  | cells {l : List SV} {vs : List Value} {b e : Nat} (h : RepSs V I l vs) (hc : ∀ x ∈ l, cellS x = true) : RepOB V I (.cells l) (.blk b) [(b, .cells vs.toArray e (0, 0))]
  | row {fx : Bool} {e k b ct : Nat} {l : List T} {cur : Array Value} (h1 : cur.size = ct * k) (h2 : ct ≤ maxLen) (h3 : l.length ≤ ct) (h : RepA V (l.flatMap T.cells) (cur.toList.take (l.length * k)))
      (hc : ∀ x ∈ l.flatMap T.cells, x.isAgg = false) (hw : ∀ x ∈ l, x.cells.length = k) : RepOB V I (.row fx e k l) (.row b k ct) [(b, .cells cur e (0, 0))]
  | vrow {fx : Bool} {e k : Nat} : RepOB V I (.row fx e k []) .vrow []
  | dead {ie : IE} : RepOB V I .dead ie []
inductive GRel (V : View) (I : List IE) : List IE → List OB → Own → Prop
  | nil : GRel V I [] [] []
  | cons {ie : IE} {ob : OB} {g : Own} {Is : List IE} {H : List OB} {G : Own} (h : RepOB V I ob ie g) (h' : GRel V I Is H G) : GRel V I (ie :: Is) (ob :: H) (g ++ G)
def GR (V : View) (I : List IE) (H : List OB) (G : Own) : Prop := ∃ G0, GRel V I I H G0 ∧ G.Perm G0
theorem GRel.length {V : View} {I : List IE} : ∀ {Is : List IE} {H : List OB} {G : Own}, GRel V I Is H G → Is.length = H.length
  | _, _, _, .nil => rfl
  | _, _, _, .cons _ h => by simp [h.length]
theorem RepOB.map {V V' : View} {I I' : List IE} {g : SV → SV} (hs : Sub V V') (hg : Leaf V V' I I' g) (hc' : ∀ x, cellS x = true → cellS (g x) = true) {ob : OB} {ie : IE} {G : Own} (h : RepOB V I ob ie G) : RepOB V' I' (ob.mp g) ie G := by
  cases h with
  | cells h hc =>
    refine .cells (h.map hg) ?_
    rename_i l _ _ _
    clear h
    induction l with
    | nil => intro x hx; simp [mpL] at hx
    | cons y l ih =>
      intro x hx
      simp only [mpL, List.mem_cons] at hx
      rcases hx with rfl | hx
      · have := hc y (by simp)
        cases y <;> simp only [SV.mp] <;> first | exact hc' _ this | (simp [cellS] at this ⊢)
      · exact ih (fun z hz => hc z (by simp [hz])) x hx
  | row h1 h2 h3 h hc hw => exact .row h1 h2 h3 (h.mono hs) hc hw
  | vrow => exact .vrow
  | dead => exact .dead
theorem GRel.map {V V' : View} {I I' : List IE} {g : SV → SV} (hs : Sub V V') (hg : Leaf V V' I I' g) (hc' : ∀ x, cellS x = true → cellS (g x) = true) : ∀ {Is : List IE} {H : List OB} {G : Own}, GRel V I Is H G → GRel V' I' Is (H.map (OB.mp g)) G
  | _, _, _, .nil => .nil
  | _, _, _, .cons h h' => .cons (h.map hs hg hc') (h'.map hs hg hc')
theorem RepOB.mono {V V' : View} {I I' : List IE} (hs : Sub V V') (hI : Ile I I') {ob : OB} {ie : IE} {G : Own} (h : RepOB V I ob ie G) : RepOB V' I' ob ie G := by
  cases h with
  | cells h hc => exact .cells (h.mono hs hI) hc
  | row h1 h2 h3 h hc hw => exact .row h1 h2 h3 (h.mono hs) hc hw
  | vrow => exact .vrow
  | dead => exact .dead
theorem GRel.mono {V V' : View} {I I' : List IE} (hs : Sub V V') (hI : Ile I I') : ∀ {Is : List IE} {H : List OB} {G : Own}, GRel V I Is H G → GRel V' I' Is H G
  | _, _, _, .nil => .nil
  | _, _, _, .cons h h' => .cons (h.mono hs hI) (h'.mono hs hI)
theorem GRel.append {V : View} {I : List IE} : ∀ {Is : List IE} {H : List OB} {G : Own} {Is' : List IE} {H' : List OB} {G' : Own}, GRel V I Is H G → GRel V I Is' H' G' → GRel V I (Is ++ Is') (H ++ H') (G ++ G')
  | _, _, _, _, _, _, .nil, h => h
  | _, _, _, _, _, _, .cons h h', h2 => by
    rw [List.append_assoc]; exact .cons h (h'.append h2)
/-- One block, and the others. -/
theorem GRel.focus {V : View} {I : List IE} : ∀ {Is : List IE} {H : List OB} {G : Own}, GRel V I Is H G → ∀ {n : Nat} {ob : OB}, H[n]? = some ob →
    ∃ ie g G1, Is[n]? = some ie ∧ RepOB V I ob ie g ∧ G.Perm (g ++ G1) ∧ ∀ ob' ie' g', RepOB V I ob' ie' g' → ∃ G', GRel V I (Is.set n ie') (H.set n ob') G' ∧ G'.Perm (g' ++ G1)
  | _, _, _, .nil, n, ob, h => by simp at h
  | _, _, _, .cons (ie := ie) (g := g) (G := G) h h', 0, ob, e => by
    simp at e; subst e
    exact ⟨ie, g, G, by simp, h, List.Perm.refl _, fun ob' ie' g' h2 => ⟨g' ++ G, .cons h2 h', List.Perm.refl _⟩⟩
  | _, _, _, .cons (g := g0) (G := G0) h h', n + 1, ob, e => by
    simp at e
    obtain ⟨ie, g, G1, h1, h2, h3, h4⟩ := h'.focus e
    refine ⟨ie, g, g0 ++ G1, by simpa using h1, h2, ?_, fun ob' ie' g' hr => ?_⟩
    · refine (h3.append_left g0).trans ?_
      rw [← List.append_assoc, ← List.append_assoc]
      exact List.perm_append_comm.append_right _
    · obtain ⟨G', k1, k2⟩ := h4 ob' ie' g' hr
      refine ⟨g0 ++ G', by simpa using GRel.cons h k1, (k2.append_left g0).trans ?_⟩
      rw [← List.append_assoc, ← List.append_assoc]
      exact List.perm_append_comm.append_right _
end Sh
