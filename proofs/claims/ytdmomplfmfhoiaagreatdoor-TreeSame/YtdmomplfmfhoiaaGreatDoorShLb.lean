/-
  Trees and what they stand for; a statement reads its arguments as trees. No condition.
-/
import Derived.Test.YtdmomplfmfhoiaaGreatDoorShLa
import Derived.Test.YtdmomplfmfhoiaaGreatDoorShE
namespace Sh
open Go Fly
theorem mapM_split {β γ : Type} {f : Nat → Option (List β)} {g : List β → Option γ} {n : Nat} {r : List γ} (h : (List.range n).mapM (fun i => (f i).bind g) = some r) :
    ∃ css : List (List β), css.length = n ∧ ∀ (i : Nat) (cs : List β), css[i]? = some cs → f i = some cs ∧ ∃ y, y ∈ r ∧ g cs = some y := by
  have hl : r.length = n := by simpa using mapM_some_length h
  refine ⟨(List.range n).map fun i => (f i).getD [], by simp, fun i cs hi => ?_⟩
  have hin : i < n := by
    have := (List.getElem?_eq_some_iff.1 hi).1
    simpa using this
  have h1 := mapM_some_get h i i (by simp [hin])
  rw [List.getElem?_eq_getElem (by omega)] at h1
  obtain ⟨c, hc, hg⟩ := Option.bind_eq_some_iff.1 h1
  have : cs = c := by
    rw [List.getElem?_map, List.getElem?_range hin] at hi
    simp [hc] at hi; exact hi.symm
  subst this
  exact ⟨hc, _, List.getElem_mem _, hg⟩
theorem all2_of {α β : Type} {R : α → β → Prop} : ∀ {l : List α}, (∀ x ∈ l, ∃ y, R x y) → ∃ m, All2 R l m
  | [], _ => ⟨[], .nil⟩
  | x :: l, h => by
    obtain ⟨y, hy⟩ := h x (List.mem_cons_self ..)
    obtain ⟨m, hm⟩ := all2_of (l := l) fun z hz => h z (List.mem_cons_of_mem _ hz)
    exact ⟨y :: m, .cons hy hm⟩
theorem All2.length {α β : Type} {R : α → β → Prop} {l : List α} {m : List β} (h : All2 R l m) : l.length = m.length := by
  induction h with
  | nil => rfl
  | cons _ _ ih => simp [ih]
theorem All2.right {α β : Type} {R : α → β → Prop} {l : List α} {m : List β} (h : All2 R l m) : ∀ y ∈ m, ∃ x, R x y := by
  induction h with
  | nil => intro y hy; simp at hy
  | cons hr _ ih =>
    intro y hy
    rcases List.mem_cons.1 hy with rfl | hy
    · exact ⟨_, hr⟩
    · exact ih y hy
section
variable {H : Type} {enc : TypeId × Value → H} {P : Program} {w : World} {S : List Nat}
/-- What is to be shown of a reading. -/
def Good (enc : TypeId × Value → H) (P : Program) (w : World) (fuel t : Nat) (cs : List Value) (x : DataW H × List MemPlace) : Prop :=
  (∃ xs, RepA (hv w) xs cs ∧ (∀ y ∈ xs, y.isAgg = false) ∧ xs.length = P.cellsOf t ∧ Shp P fuel t xs) ∧ ∀ sp : Nat → Bool, (∀ p ∈ x.2, sp p.block = true) → DataW.trod enc P w 0 sp true fuel t cs = some x
theorem shp_one {fuel t : Nat} {xs : List T} (h : Shp P fuel t xs) (hg : isGroup P t = false) (hok : okTy P S t = true) : ∃ x, xs = [x] ∧ x.isAgg = false ∧ x.cells = [x] := by
  cases fuel with
  | zero => exact absurd h (by simp [Shp])
  | succ fuel =>
    unfold Shp at h
    unfold isGroup at hg
    split at h
    · obtain ⟨b, rfl⟩ := h; exact ⟨_, rfl, rfl, rfl⟩
    · obtain ⟨b, rfl, _⟩ := h; exact ⟨_, rfl, rfl, rfl⟩
    · obtain ⟨b, rfl, _⟩ := h; exact ⟨_, rfl, rfl, rfl⟩
    · obtain ⟨b, rfl, _⟩ := h; exact ⟨_, rfl, rfl, rfl⟩
    · obtain ⟨b, rfl, _⟩ := h; exact ⟨_, rfl, rfl, rfl⟩
    · rename_i hu; rw [hu] at hg; simp at hg
    · exact absurd h (by simp)
theorem good_elem {fuel e : Nat} {cs : List Value} {x : DataW H × List MemPlace} (hok : okTy P S e = true) (h : Good enc P w fuel e cs x) :
    ∃ z : T, RepA (hv w) z.cells cs ∧ (∀ y ∈ z.cells, y.isAgg = false) ∧ z.cells.length = P.cellsOf e ∧ z.isAgg = isGroup P e ∧ Shp P fuel e z.cells := by
  obtain ⟨⟨xs, h1, h2, h3, h4⟩, _⟩ := h
  cases hg : isGroup P e with
  | true => exact ⟨.agg xs, h1, h2, h3, rfl, h4⟩
  | false =>
    obtain ⟨z, rfl, hz, hzc⟩ := shp_one h4 hg hok
    exact ⟨z, by rw [hzc]; exact h1, by rw [hzc]; exact h2, by rw [hzc]; exact h3, hz, by rw [hzc]; exact h4⟩
theorem elems_rep {fuel e : Nat} : ∀ {css : List (List Value)} {l : List T}, All2 (fun cs z => RepA (hv w) z.cells cs ∧ (∀ y ∈ z.cells, y.isAgg = false) ∧ z.cells.length = P.cellsOf e ∧ z.isAgg = isGroup P e ∧ Shp P fuel e z.cells) css l →
    RepA (hv w) (l.flatMap T.cells) css.flatten ∧ (∀ y ∈ l.flatMap T.cells, y.isAgg = false)
  | _, _, .nil => ⟨.nil, by simp⟩
  | _, _, .cons h h' => by
    obtain ⟨h1, h2⟩ := elems_rep h'
    rw [List.flatMap_cons, List.flatten_cons]
    refine ⟨h.1.append h1, fun y hy => ?_⟩
    rcases List.mem_append.1 hy with hy | hy
    · exact h.2.1 y hy
    · exact h2 y hy
theorem fields_rep {fuel : Nat} {cs : List Value} (ih : ∀ t ∈ S, ∀ (cs : List Value) (x : DataW H × List MemPlace), DataW.trod enc P w 0 (fun _ => true) true fuel t cs = some x → Good enc P w fuel t cs x) : ∀ (fs : List Field) (o : Nat) (ys : List (DataW H × List MemPlace)),
    tiles P S cs.length o fs = true → fs.mapM (fun f => DataW.trod enc P w 0 (fun _ => true) true fuel f.type ((cs.drop f.offset).take (P.cellsOf f.type))) = some ys →
    ∃ parts : List (List T), RepA (hv w) parts.flatten (cs.drop o) ∧ (∀ y ∈ parts.flatten, y.isAgg = false) ∧ All2 (fun (f : Field) p => Shp P fuel f.type p) fs parts
  | [], o, ys, ht, _ => by
    have := Nat.eq_of_beq_eq_true ht; subst this
    rw [List.drop_of_length_le (Nat.le_refl _)]
    exact ⟨[], .nil, by simp, .nil⟩
  | f :: fs, o, ys, ht, h => by
    simp only [tiles, Bool.and_eq_true] at ht
    obtain ⟨h1, h2, h3⟩ := ht
    have := Nat.eq_of_beq_eq_true h1; subst this
    rw [List.mapM_cons] at h
    obtain ⟨y, hy, h⟩ := bsome (a := DataW.trod enc P w 0 (fun _ => true) true fuel f.type ((cs.drop f.offset).take (P.cellsOf f.type))) h
    obtain ⟨ys', hys, _⟩ := bsome (a := fs.mapM (fun f => DataW.trod enc P w 0 (fun _ => true) true fuel f.type ((cs.drop f.offset).take (P.cellsOf f.type)))) h
    obtain ⟨⟨xs, a1, a2, a3, a4⟩, _⟩ := ih f.type (by simpa using h2) _ _ hy
    obtain ⟨parts, b1, b2, b3⟩ := fields_rep ih fs _ _ h3 hys
    refine ⟨xs :: parts, ?_, fun z hz => ?_, .cons a4 b3⟩
    · rw [List.flatten_cons, ← List.take_append_drop (P.cellsOf f.type) (cs.drop f.offset), List.drop_drop]
      exact a1.append b1
    · rw [List.flatten_cons] at hz
      rcases List.mem_append.1 hz with hz | hz
      · exact a2 z hz
      · exact b2 z hz
theorem trod_good (hS : ∀ t ∈ S, okTy P S t = true) : ∀ (fuel t : Nat), t ∈ S → ∀ (cs : List Value) (x : DataW H × List MemPlace), DataW.trod enc P w 0 (fun _ => true) true fuel t cs = some x → Good enc P w fuel t cs x := by
  intro fuel
  induction fuel with
  | zero => intro t _ cs x h; simp [DataW.trod] at h
  | succ fuel ih =>
    intro t htS cs x h
    have hok := hS t htS
    have one : ∀ (v : Value), isSc v = true → cs = [v] → Nat.beq (P.cellsOf t) 1 = true → Shp P (fuel + 1) t [.s v] → (∀ sp : Nat → Bool, (∀ p ∈ x.2, sp p.block = true) → DataW.trod enc P w 0 sp true (fuel + 1) t cs = some x) → Good enc P w (fuel + 1) t cs x := by
      rintro v hv' rfl h1 h2 h3
      exact ⟨⟨[.s v], .cons (.s hv') .nil, by simp [T.isAgg], by rw [Nat.eq_of_beq_eq_true h1]; rfl, h2⟩, h3⟩
    have hh := h
    rw [DataW.trod_step] at h
    unfold DataW.trodStep at h
    split at h
    case h_1 b hu =>
      refine one _ rfl rfl (by simpa [okTy, hu] using hok) (by simp only [Shp, hu]; exact ⟨b, rfl⟩) fun sp _ => ?_
      rw [DataW.trod_step] at hh ⊢; unfold DataW.trodStep at hh ⊢; simp only [hu] at hh ⊢; exact hh
    case h_2 k k' n hu =>
      split at h
      · rename_i hc
        obtain ⟨rfl, hw⟩ := hc
        refine one _ rfl rfl (by simpa [okTy, hu] using hok) (by simp only [Shp, hu]; exact ⟨n, rfl, hw⟩) fun sp _ => ?_
        rw [DataW.trod_step] at hh ⊢; unfold DataW.trodStep at hh ⊢; simp only [hu] at hh ⊢; exact hh
      · simp at h
    case h_3 k k' b hu =>
      split at h
      · rename_i hc
        obtain ⟨rfl, hw⟩ := hc
        refine one _ rfl rfl (by simpa [okTy, hu] using hok) (by simp only [Shp, hu]; exact ⟨b, rfl, hw⟩) fun sp _ => ?_
        rw [DataW.trod_step] at hh ⊢; unfold DataW.trodStep at hh ⊢; simp only [hu] at hh ⊢; exact hh
      · simp at h
    case h_4 st hu =>
      split at h
      · rename_i hc
        refine one _ rfl rfl (by simpa [okTy, hu] using hok) (by simp only [Shp, hu]; exact ⟨st, rfl, hc⟩) fun sp _ => ?_
        rw [DataW.trod_step] at hh ⊢; unfold DataW.trodStep at hh ⊢; simp only [hu] at hh ⊢; exact hh
      · simp at h
    case h_7 e hu =>
      simp only [okTy, hu, Bool.and_eq_true] at hok
      refine ⟨⟨[.sl (P.cellsOf e) []], .cons (.sl (l := []) (vs := []) .nil (by simp) (by simp) (by simp) (by simp [maxLen]) (.inl rfl)) .nil, by simp [T.isAgg], by rw [Nat.eq_of_beq_eq_true hok.1]; rfl, ?_⟩, fun sp _ => ?_⟩
      · simp only [Shp, hu]; exact ⟨[], rfl, by simp, by simp⟩
      · rw [DataW.trod_step] at hh ⊢; unfold DataW.trodStep at hh ⊢; simp only [hu] at hh ⊢; exact hh
    case h_8 e a len cap hu =>
      simp only [okTy, hu, Bool.and_eq_true, List.contains_iff_mem] at hok
      obtain ⟨ho1, ho2, ho3⟩ := hok
      have hk : 0 < P.cellsOf e := by rw [Nat.blt_eq] at ho3; exact ho3
      simp only [] at h
      split at h
      · rename_i hc
        obtain ⟨hc0, hc1, hc2⟩ := hc
        simp only [Option.map_eq_some_iff, Option.bind_eq_some_iff] at h
        obtain ⟨elems, he, rest, hrest, rfl⟩ := h
        have hlen : elems.length = len := by simpa using mapM_some_length he
        obtain ⟨css, hcl, hcs⟩ := mapM_split he
        have hz : ∀ cs ∈ css, ∃ z : T, RepA (hv w) z.cells cs ∧ (∀ y ∈ z.cells, y.isAgg = false) ∧ z.cells.length = P.cellsOf e ∧ z.isAgg = isGroup P e ∧ Shp P fuel e z.cells := by
          intro cs hm
          obtain ⟨i, hi⟩ := List.mem_iff_getElem?.1 hm
          obtain ⟨_, y, _, hy⟩ := hcs i cs hi
          exact good_elem (hS e ho2) (ih e ho2 _ _ hy)
        obtain ⟨l, hl⟩ := all2_of hz
        obtain ⟨r1, r2⟩ := elems_rep hl
        have hll : l.length = len := by rw [← hl.length, hcl]
        have hrd := rows_rd (w := w) (a := a) hk css 0 fun i cs hi => by rw [Nat.zero_add]; exact (hcs i cs hi).1
        refine ⟨⟨[.sl (P.cellsOf e) l], .cons ?_ .nil, by simp [T.isAgg], by rw [Nat.eq_of_beq_eq_true ho1]; rfl, ?_⟩, fun sp hsp => ?_⟩
        · rw [← hll]
          refine .sl r1 r2 (fun x hx => ?_) (by rw [hll]; exact hc1) hc2 ?_
          · obtain ⟨cs, hx1⟩ := hl.right x hx
            exact hx1.2.2.1
          · cases hl0 : css with
            | nil => rw [hl0] at hcl; left; rw [← List.length_eq_zero_iff]; rw [hll, ← hcl]; rfl
            | cons c0 css' =>
              right
              have h0 := (hcs 0 c0 (by rw [hl0]; rfl)).1
              obtain ⟨_, hcl0, hcc⟩ := World.cells?_some h0
              have h00 := hcc 0 hk
              have hc00 : c0[0]? = some (c0[0]'(by omega)) := by rw [List.getElem?_eq_getElem]
              rw [hc00] at h00
              have hsp : a.spot = none := by
                have e0 : (a.add (0 * P.cellsOf e)).add 0 = a := by unfold Addr.add; simp
                rw [e0] at h00
                exact (rd_of_cell h00).1
              refine ⟨a.block, a.off, by cases a; simp at hsp; subst hsp; rfl, fun j c hj => ?_⟩
              rw [← hl0] at hj
              have := (hrd j c hj).1
              simpa using this
        · simp only [Shp, hu]
          refine ⟨l, rfl, by omega, fun x hx => ?_⟩
          obtain ⟨cs, hx1⟩ := hl.right x hx
          exact ⟨hx1.2.2.2.1, hx1.2.2.2.2⟩
        · rw [DataW.trod_step]
          unfold DataW.trodStep
          simp only [hu]
          rw [if_pos ⟨hc0, hc1, hc2⟩]
          simp only [Option.map_eq_some_iff, Option.bind_eq_some_iff]
          have elem : ∀ (i : Nat) (y : DataW H × List MemPlace), y ∈ elems ++ rest → (w.cells? 0 (a.add (i * P.cellsOf e)) (P.cellsOf e)).bind (DataW.trod enc P w 0 (fun _ => true) true fuel e) = some y →
              (w.cells? 0 (a.add (i * P.cellsOf e)) (P.cellsOf e)).bind (DataW.trod enc P w 0 sp true fuel e) = some y := by
            intro i y hy h1
            obtain ⟨cs, h2, h3⟩ := Option.bind_eq_some_iff.1 h1
            refine Option.bind_eq_some_iff.2 ⟨cs, h2, (ih e ho2 _ _ h3).2 sp fun p hp => hsp p ?_⟩
            exact List.mem_append_right _ (List.mem_flatMap.2 ⟨y, hy, hp⟩)
          refine ⟨elems, mapM_carry he fun i y _ hy h1 => elem i y (List.mem_append_left _ hy) h1, rest, ?_, rfl⟩
          simp only [if_true] at hrest
          by_cases h0 : cap - len = 0
          · rw [h0] at hrest ⊢
            simp at hrest
            subst hrest
            split <;> rfl
          · have hrl : rest.length = cap - len := by simpa using mapM_some_length hrest
            have : sp a.block = true := hsp (.cell a.block (a.off + 0)) (List.mem_append_left _ (MemPlace.mem_row.2 ⟨0, Nat.mul_pos (by omega) hk, rfl⟩))
            rw [if_pos this]
            exact mapM_carry hrest fun i y _ hy h1 => elem _ y (List.mem_append_right _ hy) h1
      · simp at h
    case h_9 fs hu =>
      simp only [okTy, hu] at hok
      split at h
      · rename_i hc
        simp only [Option.map_eq_some_iff] at h
        obtain ⟨ys, hy, rfl⟩ := h
        rw [← hc] at hok
        obtain ⟨parts, b1, b2, b3⟩ := fields_rep ih fs.toList 0 ys hok hy
        rw [List.drop_zero] at b1
        refine ⟨⟨parts.flatten, b1, b2, by rw [b1.length, hc], ?_⟩, fun sp hsp => ?_⟩
        · simp only [Shp, hu]; exact ⟨parts, rfl, b3⟩
        · rw [DataW.trod_step]
          unfold DataW.trodStep
          simp only [hu]
          rw [if_pos hc]
          simp only [Option.map_eq_some_iff]
          have inS : ∀ (N : Nat) (l : List Field) (o : Nat), tiles P S N o l = true → ∀ f ∈ l, f.type ∈ S := by
            intro N l
            induction l with
            | nil => intro o _ f hf; simp at hf
            | cons g l ihl =>
              intro o ht f hf
              simp only [tiles, Bool.and_eq_true] at ht
              rcases List.mem_cons.1 hf with rfl | hf
              · simpa using ht.2.1
              · exact ihl _ ht.2.2 f hf
          refine ⟨ys, mapM_carry hy fun f y hf hym h1 => (ih f.type (inS _ _ _ hok f hf) _ _ h1).2 sp fun p hp => hsp p (List.mem_flatMap.2 ⟨y, hym, hp⟩), rfl⟩
      · simp at h
    all_goals first
      | (rename_i hu; simp [okTy, hu] at hok; done)
      | (rename_i hu _; simp [okTy, hu] at hok; done)
      | (simp at h; done)
end
end Sh
