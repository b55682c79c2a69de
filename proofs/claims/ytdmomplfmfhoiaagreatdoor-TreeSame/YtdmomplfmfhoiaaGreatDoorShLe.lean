/-
  Trees and what they stand for; a statement reads its arguments as trees. No condition.
-/
import Derived.Test.YtdmomplfmfhoiaaGreatDoorShLd
import Derived.Test.YtdmomplfmfhoiaaGreatDoorTr1
import Derived.Test.YtdmomplfmfhoiaaGreatDoorProg
import Derived.KernelRfl
namespace Sh
open Go Fly Go.Proofs
section
variable {P : Program} {V : View} {fuel t : Nat} {xs : List T}
def tysOf (P : Program) (t : Nat) : Option (List Nat) := match P.underlying t with
  | some (.struct fs) => some (fs.toList.map (·.type))
  | _ => none
theorem all2_map {α β γ : Type} {R : γ → β → Prop} {f : α → γ} : ∀ {l : List α} {m : List β}, All2 (fun a b => R (f a) b) l m → All2 R (l.map f) m
  | _, _, .nil => .nil
  | _, _, .cons h h' => .cons h (all2_map h')
theorem struct_inv {ts : List Nat} (hu : tysOf P t = some ts) (h : Shp P fuel t xs) : ∃ f' parts, fuel = f' + 1 ∧ xs = List.flatten parts ∧ All2 (Shp P f') ts parts := by
  cases fuel with
  | zero => exact absurd h (by simp [Shp])
  | succ fuel =>
    unfold tysOf at hu
    split at hu
    · rename_i fs hs
      simp only [Option.some.injEq] at hu; subst hu
      simp only [Shp, hs] at h
      obtain ⟨parts, h1, h2⟩ := h
      exact ⟨fuel, parts, rfl, h1, all2_map (f := fun f : Field => f.type) h2⟩
    · simp at hu
theorem int_inv {k : IntKind} (hu : P.underlying t = some (.int k)) (h : Shp P fuel t xs) : ∃ n, xs = [.s (.int k n)] := by
  cases fuel with
  | zero => exact absurd h (by simp [Shp])
  | succ fuel => simp only [Shp, hu] at h; obtain ⟨n, h, _⟩ := h; exact ⟨n, h⟩
theorem bool_inv (hu : P.underlying t = some .bool) (h : Shp P fuel t xs) : ∃ n, xs = [.s (.bool n)] := by
  cases fuel with
  | zero => exact absurd h (by simp [Shp])
  | succ fuel => simp only [Shp, hu] at h; exact h
theorem str_inv (hu : P.underlying t = some .string) (h : Shp P fuel t xs) : ∃ n, xs = [.s (.string n)] := by
  cases fuel with
  | zero => exact absurd h (by simp [Shp])
  | succ fuel => simp only [Shp, hu] at h; obtain ⟨n, h, _⟩ := h; exact ⟨n, h⟩
theorem slice_inv {e : Nat} (hu : P.underlying t = some (.slice e)) (h : Shp P fuel t xs) : ∃ f' l, fuel = f' + 1 ∧ xs = [.sl (P.cellsOf e) l] ∧ ∀ x ∈ l, Shp P f' e x.cells := by
  cases fuel with
  | zero => exact absurd h (by simp [Shp])
  | succ fuel => simp only [Shp, hu] at h; obtain ⟨l, h, _, h2⟩ := h; exact ⟨fuel, l, rfl, h, fun x hx => (h2 x hx).2⟩
theorem all2_flat : ∀ {parts : List (List T)} {cs : List Value}, RepA V parts.flatten cs → ∃ css, cs = List.flatten css ∧ All2 (RepA V) parts css
  | [], cs, h => by cases h; exact ⟨[], rfl, .nil⟩
  | p :: parts, cs, h => by
    rw [List.flatten_cons] at h
    obtain ⟨v1, v2, rfl, h1, h2⟩ := h.split
    obtain ⟨css, rfl, h3⟩ := all2_flat h2
    exact ⟨v1 :: css, by rw [List.flatten_cons], .cons h1 h3⟩
theorem repa_s {v : Value} {cs : List Value} (h : RepA V [.s v] cs) : cs = [v] := by
  cases h with | cons h h' => cases h' with | nil => cases h with | s _ => rfl
theorem repa_sl {k : Nat} {l : List T} {cs : List Value} (h : RepA V [.sl k l] cs) : ∃ v vs, cs = [v] ∧ Sl k V v vs ∧ RepA V (l.flatMap T.cells) vs := by
  cases h with | cons h h' => cases h' with | nil =>
  cases h with
  | @sl _ _ vs a cap h hc hw h1 h2 h3 =>
    refine ⟨_, vs, rfl, ⟨a, l.length, cap, rfl, h1, h2, ?_, ?_⟩, h⟩
    · rw [← h.length]
      clear h h1 h2 h3 hc
      induction l with
      | nil => simp
      | cons x l ih => rw [List.flatMap_cons, List.length_append, ih fun y hy => hw y (List.mem_cons_of_mem _ hy), hw x (List.mem_cons_self ..), List.length_cons, Nat.add_mul]; omega
    · rcases h3 with h3 | h3
      · left; rw [h3]; rfl
      · exact .inr h3
end
section
variable {V : View}
theorem u41 : tysOf Tryz.prog 41 = some [39, 3, 4, 21, 35, 9, 38] := by kernel_rfl
theorem u43 : tysOf Tryz.prog 43 = some [37, 3, 9, 38, 41, 21, 21, 23, 23] := by kernel_rfl
theorem u54 : tysOf Tryz.prog 54 = some [3, 4, 9, 52, 3, 4, 41, 41] := by kernel_rfl
theorem u25 : tysOf Tryz.prog 25 = some [3, 22, 23, 23] := by kernel_rfl
theorem u39 : Tryz.prog.underlying 39 = some (.int .u8) := by kernel_rfl
theorem u37 : Tryz.prog.underlying 37 = some (.int .u8) := by kernel_rfl
theorem u52 : Tryz.prog.underlying 52 = some (.int .u8) := by kernel_rfl
theorem u3 : Tryz.prog.underlying 3 = some (.int .i64) := by kernel_rfl
theorem u21 : Tryz.prog.underlying 21 = some (.int .i32) := by kernel_rfl
theorem u35 : Tryz.prog.underlying 35 = some (.int .u64) := by kernel_rfl
theorem u4 : Tryz.prog.underlying 4 = some .bool := by kernel_rfl
theorem u9 : Tryz.prog.underlying 9 = some .string := by kernel_rfl
theorem u38 : Tryz.prog.underlying 38 = some (.slice 41) := by kernel_rfl
theorem u22 : Tryz.prog.underlying 22 = some (.slice 54) := by kernel_rfl
theorem u23 : Tryz.prog.underlying 23 = some (.slice 43) := by kernel_rfl
theorem n41 : Tryz.prog.cellsOf 41 = 7 := by kernel_rfl
theorem n43 : Tryz.prog.cellsOf 43 = 15 := by kernel_rfl
theorem n54 : Tryz.prog.cellsOf 54 = 20 := by kernel_rfl
theorem exs_of {f' : Nat} (ih : ∀ xs cs, Shp Tryz.prog f' 41 xs → RepA V xs cs → ∃ e : Ex, Ex.Is V e cs) : ∀ (l : List T) (vs : List Value), (∀ x ∈ l, Shp Tryz.prog f' 41 x.cells) → RepA V (l.flatMap T.cells) vs → ∃ az : Exs, Exs.Is V az vs
  | [], vs, _, h => by cases h; exact ⟨.nil, by simp [Exs.Is]⟩
  | x :: l, vs, hl, h => by
    rw [List.flatMap_cons] at h
    obtain ⟨v1, v2, rfl, h1, h2⟩ := h.split
    obtain ⟨e, he⟩ := ih _ _ (hl x (List.mem_cons_self ..)) h1
    obtain ⟨az, ha⟩ := exs_of ih l v2 (fun y hy => hl y (List.mem_cons_of_mem _ hy)) h2
    exact ⟨.cons e az, by simp only [Exs.Is]; exact ⟨v1, v2, rfl, he, ha⟩⟩
theorem ex_of : ∀ (N fuel : Nat), fuel ≤ N → ∀ xs cs, Shp Tryz.prog fuel 41 xs → RepA V xs cs → ∃ e : Ex, Ex.Is V e cs := by
  intro N
  induction N with
  | zero => intro fuel hf xs cs h; have : fuel = 0 := by omega
            subst this; exact absurd h (by simp [Shp])
  | succ N ih =>
    intro fuel hf xs cs h hr
    obtain ⟨f', parts, rfl, rfl, hp⟩ := struct_inv u41 h
    obtain ⟨css, rfl, hc⟩ := all2_flat hr
    cases hp with | cons q1 hp => cases hp with | cons q2 hp => cases hp with | cons q3 hp => cases hp with | cons q4 hp => cases hp with | cons q5 hp => cases hp with | cons q6 hp => cases hp with | cons q7 hp => cases hp with | nil =>
    cases hc with | cons c1 hc => cases hc with | cons c2 hc => cases hc with | cons c3 hc => cases hc with | cons c4 hc => cases hc with | cons c5 hc => cases hc with | cons c6 hc => cases hc with | cons c7 hc => cases hc with | nil =>
    obtain ⟨op, rfl⟩ := int_inv u39 q1
    obtain ⟨at_, rfl⟩ := int_inv u3 q2
    obtain ⟨b, rfl⟩ := bool_inv u4 q3
    obtain ⟨i, rfl⟩ := int_inv u21 q4
    obtain ⟨f, rfl⟩ := int_inv u35 q5
    obtain ⟨nm, rfl⟩ := str_inv u9 q6
    obtain ⟨f2, l, rfl, rfl, hl⟩ := slice_inv u38 q7
    rw [n41] at c7
    obtain ⟨v, vs, rfl, hsl, hrl⟩ := repa_sl c7
    obtain ⟨az, ha⟩ := exs_of (fun xs cs h1 h2 => ih f2 (by omega) xs cs h1 h2) l vs hl hrl
    rw [repa_s c1, repa_s c2, repa_s c3, repa_s c4, repa_s c5, repa_s c6]
    exact ⟨.mk op at_ b i f nm az, by simp only [Ex.Is]; exact ⟨v, vs, rfl, hsl, ha⟩⟩
theorem sts_of {f' : Nat} (ih : ∀ xs cs, Shp Tryz.prog f' 43 xs → RepA V xs cs → ∃ e : St_, St_.Is V e cs) : ∀ (l : List T) (vs : List Value), (∀ x ∈ l, Shp Tryz.prog f' 43 x.cells) → RepA V (l.flatMap T.cells) vs → ∃ az : Sts, Sts.Is V az vs
  | [], vs, _, h => by cases h; exact ⟨.nil, by simp [Sts.Is]⟩
  | x :: l, vs, hl, h => by
    rw [List.flatMap_cons] at h
    obtain ⟨v1, v2, rfl, h1, h2⟩ := h.split
    obtain ⟨e, he⟩ := ih _ _ (hl x (List.mem_cons_self ..)) h1
    obtain ⟨az, ha⟩ := sts_of ih l v2 (fun y hy => hl y (List.mem_cons_of_mem _ hy)) h2
    exact ⟨.cons e az, by simp only [Sts.Is]; exact ⟨v1, v2, rfl, he, ha⟩⟩
theorem st_of : ∀ (N fuel : Nat), fuel ≤ N → ∀ xs cs, Shp Tryz.prog fuel 43 xs → RepA V xs cs → ∃ e : St_, St_.Is V e cs := by
  intro N
  induction N with
  | zero => intro fuel hf xs cs h; have : fuel = 0 := by omega
            subst this; exact absurd h (by simp [Shp])
  | succ N ih =>
    intro fuel hf xs cs h hr
    obtain ⟨f', parts, rfl, rfl, hp⟩ := struct_inv u43 h
    obtain ⟨css, rfl, hc⟩ := all2_flat hr
    cases hp with | cons q1 hp => cases hp with | cons q2 hp => cases hp with | cons q3 hp => cases hp with | cons q4 hp => cases hp with | cons q5 hp => cases hp with | cons q6 hp => cases hp with | cons q7 hp => cases hp with | cons q8 hp => cases hp with | cons q9 hp => cases hp with | nil =>
    cases hc with | cons c1 hc => cases hc with | cons c2 hc => cases hc with | cons c3 hc => cases hc with | cons c4 hc => cases hc with | cons c5 hc => cases hc with | cons c6 hc => cases hc with | cons c7 hc => cases hc with | cons c8 hc => cases hc with | cons c9 hc => cases hc with | nil =>
    obtain ⟨kd, rfl⟩ := int_inv u37 q1
    obtain ⟨p, rfl⟩ := int_inv u3 q2
    obtain ⟨nm, rfl⟩ := str_inv u9 q3
    obtain ⟨lo, rfl⟩ := int_inv u21 q6
    obtain ⟨hi, rfl⟩ := int_inv u21 q7
    obtain ⟨f2, l2, e2, rfl, hl2⟩ := slice_inv u38 q4
    obtain ⟨f3, l3, e3, rfl, hl3⟩ := slice_inv u23 q8
    obtain ⟨f4, l4, e4, rfl, hl4⟩ := slice_inv u23 q9
    rw [n41] at c4
    rw [n43] at c8 c9
    obtain ⟨v2, vs2, rfl, hsl2, hrl2⟩ := repa_sl c4
    obtain ⟨v3, vs3, rfl, hsl3, hrl3⟩ := repa_sl c8
    obtain ⟨v4, vs4, rfl, hsl4, hrl4⟩ := repa_sl c9
    obtain ⟨ex, hex⟩ := ex_of _ _ (Nat.le_refl _) _ _ q5 c5
    obtain ⟨ix, hix⟩ := exs_of (fun xs cs h1 h2 => ex_of _ _ (Nat.le_refl _) xs cs h1 h2) l2 vs2 hl2 hrl2
    obtain ⟨tn, htn⟩ := sts_of (fun xs cs h1 h2 => ih f3 (by omega) xs cs h1 h2) l3 vs3 hl3 hrl3
    obtain ⟨el, hel⟩ := sts_of (fun xs cs h1 h2 => ih f4 (by omega) xs cs h1 h2) l4 vs4 hl4 hrl4
    rw [repa_s c1, repa_s c2, repa_s c3, repa_s c6, repa_s c7]
    exact ⟨.mk kd p nm ix ex lo hi tn el, by
      simp only [St_.Is]
      exact ⟨v2, vs2, _, v3, vs3, v4, vs4, by simp, hsl2, hix, hex, hsl3, htn, hsl4, hel⟩⟩
theorem dc_of {f' : Nat} {xs : List T} {cs : List Value} (h : Shp Tryz.prog f' 54 xs) (hr : RepA V xs cs) : ∃ d : Dc, Dc.Is V d cs := by
  obtain ⟨f', parts, rfl, rfl, hp⟩ := struct_inv u54 h
  obtain ⟨css, rfl, hc⟩ := all2_flat hr
  cases hp with | cons q1 hp => cases hp with | cons q2 hp => cases hp with | cons q3 hp => cases hp with | cons q4 hp => cases hp with | cons q5 hp => cases hp with | cons q6 hp => cases hp with | cons q7 hp => cases hp with | cons q8 hp => cases hp with | nil =>
  cases hc with | cons c1 hc => cases hc with | cons c2 hc => cases hc with | cons c3 hc => cases hc with | cons c4 hc => cases hc with | cons c5 hc => cases hc with | cons c6 hc => cases hc with | cons c7 hc => cases hc with | cons c8 hc => cases hc with | nil =>
  obtain ⟨at_, rfl⟩ := int_inv u3 q1
  obtain ⟨inp, rfl⟩ := bool_inv u4 q2
  obtain ⟨nm, rfl⟩ := str_inv u9 q3
  obtain ⟨ty, rfl⟩ := int_inv u52 q4
  obtain ⟨len, rfl⟩ := int_inv u3 q5
  obtain ⟨rng, rfl⟩ := bool_inv u4 q6
  obtain ⟨lo, hlo⟩ := ex_of _ _ (Nat.le_refl _) _ _ q7 c7
  obtain ⟨hi, hhi⟩ := ex_of _ _ (Nat.le_refl _) _ _ q8 c8
  rw [repa_s c1, repa_s c2, repa_s c3, repa_s c4, repa_s c5, repa_s c6]
  exact ⟨⟨at_, inp, nm, ty, len, rng, lo, hi⟩, _, _, by simp, hlo, hhi⟩
theorem dcs_of {f' : Nat} : ∀ (l : List T) (vs : List Value), (∀ x ∈ l, Shp Tryz.prog f' 54 x.cells) → RepA V (l.flatMap T.cells) vs → ∃ az : List Dc, DcsIs V az vs
  | [], vs, _, h => by cases h; exact ⟨[], by simp [DcsIs]⟩
  | x :: l, vs, hl, h => by
    rw [List.flatMap_cons] at h
    obtain ⟨v1, v2, rfl, h1, h2⟩ := h.split
    obtain ⟨e, he⟩ := dc_of (hl x (List.mem_cons_self ..)) h1
    obtain ⟨az, ha⟩ := dcs_of l v2 (fun y hy => hl y (List.mem_cons_of_mem _ hy)) h2
    exact ⟨e :: az, v1, v2, rfl, he, ha⟩
/-- A program. -/
theorem pg_of {x : T} {v : Value} (h : IsTy Tryz.prog 25 x) (hr : Rep V x v) : ∃ (p : Pg) (cs : List Value), v = .agg cs.toArray ∧ Pg.Is V p cs := by
  obtain ⟨hg, fuel, hs⟩ := h
  have : isGroup Tryz.prog 25 = true := by kernel_rfl
  rw [this] at hg
  cases hr with
  | agg hr hc =>
    rename_i l cs
    suffices h : ∃ p : Pg, Pg.Is V p cs by
      obtain ⟨p, hp⟩ := h
      exact ⟨p, cs, rfl, hp⟩
    simp only [T.cells] at hs
    obtain ⟨f', parts, rfl, rfl, hp⟩ := struct_inv u25 hs
    obtain ⟨css, rfl, hc⟩ := all2_flat hr
    cases hp with | cons q1 hp => cases hp with | cons q2 hp => cases hp with | cons q3 hp => cases hp with | cons q4 hp => cases hp with | nil =>
    cases hc with | cons c1 hc => cases hc with | cons c2 hc => cases hc with | cons c3 hc => cases hc with | cons c4 hc => cases hc with | nil =>
    obtain ⟨ticks, rfl⟩ := int_inv u3 q1
    obtain ⟨f2, l2, e2, rfl, hl2⟩ := slice_inv u22 q2
    obtain ⟨f3, l3, e3, rfl, hl3⟩ := slice_inv u23 q3
    obtain ⟨f4, l4, e4, rfl, hl4⟩ := slice_inv u23 q4
    rw [n54] at c2
    rw [n43] at c3 c4
    obtain ⟨v2, vs2, rfl, hsl2, hrl2⟩ := repa_sl c2
    obtain ⟨v3, vs3, rfl, hsl3, hrl3⟩ := repa_sl c3
    obtain ⟨v4, vs4, rfl, hsl4, hrl4⟩ := repa_sl c4
    obtain ⟨ds, hds⟩ := dcs_of l2 vs2 hl2 hrl2
    obtain ⟨ini, hin⟩ := sts_of (fun xs cs h1 h2 => st_of _ _ (Nat.le_refl _) xs cs h1 h2) l3 vs3 hl3 hrl3
    obtain ⟨stp, hst⟩ := sts_of (fun xs cs h1 h2 => st_of _ _ (Nat.le_refl _) xs cs h1 h2) l4 vs4 hl4 hrl4
    rw [repa_s c1]
    exact ⟨⟨ticks, ds, ini, stp⟩, v2, vs2, v3, vs3, v4, vs4, by simp, hsl2, hds, hsl3, hin, hsl4, hst⟩
  | s _ => simp [T.isAgg] at hg
  | sl _ _ _ _ _ _ => simp [T.isAgg] at hg
  | pt _ _ _ => simp [T.isAgg] at hg
  | fn _ _ => simp [T.isAgg] at hg
end
end Sh
