/-
  Trees and what they stand for; a statement reads its arguments as trees. No condition.
-/
import Derived.Test.YtdmomplfmfhoiaaGreatDoorShLb
import Derived.RowKit
import Derived.Test.YtdmomplfmfhoiaaGreatDoorFlyP
namespace Sh
open Go Fly Go.RowKit Go.ChangeShapes
section
variable {H : Type} {enc : TypeId × Value → H} {P : Program} {w : World} {S : List Nat}
/-- A tree of a type. -/
def IsTy (P : Program) (t : Nat) (x : T) : Prop := x.isAgg = isGroup P t ∧ ∃ fuel, Shp P fuel t x.cells
theorem not_agg {r : Reach} {b0 : Nat} {t : Nat} {cs : Array Value} (hok : okTy P S t = true) (hg : isGroup P t = false) (h : Value.okWide P w r b0 t (.agg cs)) : False := by
  unfold okTy at hok
  unfold Value.okWide Cell.okWide Cell.ok at h
  unfold isGroup at hg
  split at hok
  all_goals rename_i hu
  all_goals first
    | (simp [hu] at hok; done)
    | (simp [hu] at hg; done)
    | (simp [hu] at h; done)
theorem arg_tree (hS : ∀ t ∈ S, okTy P S t = true) {r : Reach} {b0 t : Nat} {v : Value} {d : DataW H} {p : List MemPlace} (ht : t ∈ S) (hval : Value.okWide P w r b0 t v) (h : DataW.Trod enc P w 0 (fun _ => true) true t v d p) :
    (∃ x, Rep (hv w) x v ∧ IsTy P t x) ∧ ∀ sp : Nat → Bool, (∀ q ∈ p, sp q.block = true) → DataW.Trod enc P w 0 sp true t v d p := by
  obtain ⟨fuel, hf⟩ := h
  have hgood := trod_good hS fuel t ht _ _ hf
  refine ⟨?_, fun sp hsp => ⟨fuel, hgood.2 sp hsp⟩⟩
  obtain ⟨⟨xs, h1, h2, h3, h4⟩, _⟩ := hgood
  cases hg : isGroup P t with
  | true =>
    have : ∃ cs, v = .agg cs := by
      unfold isGroup at hg
      split at hg
      · rename_i fs hu
        unfold Value.okWide at hval
        rw [hu] at hval
        obtain ⟨cs, rfl, _⟩ := hval
        exact ⟨cs, rfl⟩
      · simp at hg
    obtain ⟨cs, rfl⟩ := this
    simp only [Value.cells] at h1
    exact ⟨.agg xs, .agg h1 h2, by rw [hg]; rfl, fuel, h4⟩
  | false =>
    obtain ⟨z, rfl, hz, hzc⟩ := shp_one h4 hg (hS t ht)
    have hvc : v.cells = #[v] := by
      cases v with
      | agg cs => exact absurd hval fun h => not_agg (hS t ht) hg h
      | _ => rfl
    rw [hvc] at h1
    cases h1 with
    | cons h1 _ => exact ⟨z, h1, by rw [hz, hg], fuel, by rw [hzc]; exact h4⟩
theorem args_trees (hS : ∀ t ∈ S, okTy P S t = true) {r : Reach} {b0 : Nat} : ∀ (ts : List Nat) (vs : List Value) (ds : List (DataW H)) (p : List MemPlace), (∀ t ∈ ts, t ∈ S) → (∀ (j : Nat) t v, ts[j]? = some t → vs[j]? = some v → Value.okWide P w r b0 t v) →
    DataW.TrodAll enc P w 0 (fun _ => true) true ts vs ds p →
    (∃ xs, RepA (hv w) xs vs ∧ All2 (IsTy P) ts xs) ∧ ∀ sp : Nat → Bool, (∀ q ∈ p, sp q.block = true) → DataW.TrodAll enc P w 0 sp true ts vs ds p
  | [], vs, ds, p, _, _, h => by
    obtain ⟨rfl, rfl, rfl⟩ := trodAll_nil h
    exact ⟨⟨[], .nil, .nil⟩, fun _ _ => rfl⟩
  | t :: ts, vs, ds, p, hts, hval, h => by
    obtain ⟨v, vs1, d, ds1, a, b, rfl, rfl, rfl, h1, h2⟩ := trodAll_cons h
    obtain ⟨⟨x, a1, a2⟩, a3⟩ := arg_tree hS (hts t (List.mem_cons_self ..)) (hval 0 t v rfl rfl) h1
    obtain ⟨⟨xs, b1, b2⟩, b3⟩ := args_trees hS ts vs1 ds1 b (fun u hu => hts u (List.mem_cons_of_mem _ hu)) (fun j t v hj hv => hval (j + 1) t v (by simpa using hj) (by simpa using hv)) h2
    exact ⟨⟨x :: xs, .cons a1 b1, .cons a2 b2⟩, fun sp hsp => ⟨a, b, a3 sp fun q hq => hsp q (List.mem_append_left _ hq), b3 sp fun q hq => hsp q (List.mem_append_right _ hq), rfl⟩⟩
theorem trodAll_carry {w' : World} {base : Nat} {sp : Nat → Bool} : ∀ (ts : List Nat) (vs : List Value) (ds : List (DataW H)) (p : List MemPlace), DataW.TrodAll enc P w base sp true ts vs ds p → (∀ q ∈ p, w.sameAt w' q) → DataW.TrodAll enc P w' base sp true ts vs ds p
  | [], vs, ds, p, h, _ => by
    obtain ⟨rfl, rfl, rfl⟩ := trodAll_nil h
    exact rfl
  | t :: ts, vs, ds, p, h, hs => by
    obtain ⟨v, vs1, d, ds1, a, b, rfl, rfl, rfl, h1, h2⟩ := trodAll_cons h
    obtain ⟨fuel, hf⟩ := h1
    exact ⟨a, b, ⟨fuel, DataW.trod_carry _ _ _ _ hf fun q hq => hs q (List.mem_append_left _ hq)⟩, trodAll_carry ts vs1 ds1 b h2 fun q hq => hs q (List.mem_append_right _ hq), rfl⟩
end
end Sh
