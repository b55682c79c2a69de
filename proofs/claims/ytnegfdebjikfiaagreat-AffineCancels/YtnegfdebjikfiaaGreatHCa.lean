/-
  The row: affineCancels_holds. The condition: none.
-/
import Derived.Test.YtnegfdebjikfiaaGreatEC01
import Derived.Test.YtnegfdebjikfiaaGreatSuLa
import Derived.Test.YtnegfdebjikfiaaGreatRows
import Derived.WalkKit
import Derived.ProofKit
set_option maxRecDepth 10000
namespace Su
open Go Fly Go.Proofs
section
variable {P : Program} {fuel t : Nat} {xs : List T}
def tysOf (P : Program) (t : Nat) : Option (List Nat) := match P.underlying t with
  | some (.struct fs) => some (fs.toList.map (·.type))
  | _ => none
theorem all2_map {α β γ : Type} {R : γ → β → Prop} {f : α → γ} : ∀ {l : List α} {m : List β}, All2 (fun a b => R (f a) b) l m → All2 R (l.map f) m
  | _, _, .nil => .nil
  | _, _, .cons h h' => .cons h (all2_map h')
theorem struct_inv {ts : List Nat} (hu : tysOf P t = some ts) (h : Shp P fuel t xs) : ∃ f' parts, fuel = f' + 1 ∧ xs = List.flatten parts ∧ All2 (Shp P f') ts parts := by
  cases fuel with
  | zero => exact absurd h (by simp [Shp])
  | succ fuel =>
    unfold tysOf at hu
    split at hu
    · rename_i fs hs
      simp only [Option.some.injEq] at hu; subst hu
      simp only [Shp, hs] at h
      obtain ⟨parts, h1, h2⟩ := h
      exact ⟨fuel, parts, rfl, h1, all2_map (f := fun f : Field => f.type) h2⟩
    · simp at hu
theorem int_inv {k : IntKind} (hu : P.underlying t = some (.int k)) (h : Shp P fuel t xs) : ∃ n, xs = [.s (.int k n)] := by
  cases fuel with
  | zero => exact absurd h (by simp [Shp])
  | succ fuel => simp only [Shp, hu] at h; obtain ⟨n, h, _⟩ := h; exact ⟨n, h⟩
theorem bool_inv (hu : P.underlying t = some .bool) (h : Shp P fuel t xs) : ∃ n, xs = [.s (.bool n)] := by
  cases fuel with
  | zero => exact absurd h (by simp [Shp])
  | succ fuel => simp only [Shp, hu] at h; exact h
theorem slice_inv {e : Nat} (hu : P.underlying t = some (.slice e)) (h : Shp P fuel t xs) : ∃ f' l, fuel = f' + 1 ∧ xs = [.sl (P.cellsOf e) l] ∧ ∀ x ∈ l, x.isAgg = isGroup P e ∧ Shp P f' e x.cells := by
  cases fuel with
  | zero => exact absurd h (by simp [Shp])
  | succ fuel => simp only [Shp, hu] at h; obtain ⟨l, h, _, h2⟩ := h; exact ⟨fuel, l, rfl, h, h2⟩
end
theorem agg_of {x : T} (h : x.isAgg = true) : x = .agg x.cells := by cases x <;> first | rfl | (simp [T.isAgg] at h)
/-- A noise, as a statement reads it. -/
theorem tm_of {fuel : Nat} {x : T} (h0 : x.isAgg = isGroup Tryz.prog 58) (h : Shp Tryz.prog fuel 58 x.cells) : ∃ a, unTm x = some a := by
  have hg : isGroup Tryz.prog 58 = true := by kernel_rfl
  rw [hg] at h0
  have hx := agg_of h0
  obtain ⟨f', parts, rfl, h1, h2⟩ := struct_inv (ts := [3, 23]) (by kernel_rfl) h
  cases h2 with | cons p1 h2 => cases h2 with | cons p2 h2 => cases h2 with | nil =>
  obtain ⟨i, rfl⟩ := int_inv (k := .i64) (by kernel_rfl) p1
  obtain ⟨c, rfl⟩ := int_inv (k := .u64) (by kernel_rfl) p2
  rw [hx, h1]
  refine ⟨⟨i, c⟩, ?_⟩
  show ((asI .i64 (.t (.s (.int .i64 i)))).bind fun i => (asI .u64 (.t (.s (.int .u64 c)))).bind fun c => some (⟨i, c⟩ : Su.Tm)) = _
  simp [asI]
  rfl
theorem tms_of : ∀ {l : List T} {fuel : Nat}, (∀ x ∈ l, x.isAgg = isGroup Tryz.prog 58 ∧ Shp Tryz.prog fuel 58 x.cells) → ∃ a, unTms l = some a
  | [], _, _ => ⟨[], rfl⟩
  | x :: l, fuel, h => by
    obtain ⟨a, ha⟩ := tm_of (h x (List.mem_cons_self ..)).1 (h x (List.mem_cons_self ..)).2
    obtain ⟨b, hb⟩ := tms_of (l := l) fun y hy => h y (List.mem_cons_of_mem _ hy)
    exact ⟨a :: b, by simp [unTms, ha, hb]⟩
/-- A form, as a statement reads it. -/
theorem form_of {x : T} (h : IsTy Tryz.prog 28 x) : ∃ a, cFrm.dec x = some a := by
  obtain ⟨h0, fuel, h⟩ := h
  have hg : isGroup Tryz.prog 28 = true := by kernel_rfl
  rw [hg] at h0
  have hx := agg_of h0
  obtain ⟨f', parts, rfl, h1, h2⟩ := struct_inv (ts := [4, 23, 26, 23]) (by kernel_rfl) h
  cases h2 with | cons p1 h2 => cases h2 with | cons p2 h2 => cases h2 with | cons p3 h2 => cases h2 with | cons p4 h2 => cases h2 with | nil =>
  obtain ⟨b, rfl⟩ := bool_inv (by kernel_rfl) p1
  obtain ⟨m, rfl⟩ := int_inv (k := .u64) (by kernel_rfl) p2
  obtain ⟨f2, l, rfl, rfl, h3⟩ := slice_inv (e := 58) (by kernel_rfl) p3
  obtain ⟨e, rfl⟩ := int_inv (k := .u64) (by kernel_rfl) p4
  obtain ⟨ts, hts⟩ := tms_of h3
  have hc : Tryz.prog.cellsOf 58 = 2 := by kernel_rfl
  rw [hx, h1, hc]
  refine ⟨(b, (m, (ts, e))), ?_⟩
  show ((asB (.t (.s (.bool b)))).bind fun b => (((asI .u64 (.t (.s (.int .u64 m)))).bind fun m => ((cTms.dec (.sl 2 l)).bind fun t => (asI .u64 (.t (.s (.int .u64 e)))).bind fun e => some (t, e)).bind fun q => some (m, q))).bind fun q => some (b, q)) = _
  have h4 : cTms.dec (.sl 2 l) = some ts := hts
  simp [asI, asB, h4]
theorem gok {V : View} : GOK tb V := fun _ _ h => by cases h
theorem can_fing {V : View} {args : Array Value} {xs : List T} (hr : RepA V xs args.toList) (ht : All2 (IsTy Tryz.prog) [28] xs) : Fing Tryz.prog 7 args V [] fun v _ _ => v = .bool true := by
  cases ht with | @cons _ x _ _ t1 ht => cases ht with | nil =>
  obtain ⟨a, ha⟩ := form_of t1
  have h : (∀ xs y, ((d1 cFrm).dec xs).bind lCan_s = some y → ∀ V vs, GOK tb V → RepA V xs vs → Fing Tryz.prog 7 vs.toArray V [] fun v V' _ => ∃ rvs, RepA V' ((d1 cB).enc y) rvs ∧ v = resV rvs) ∧ _ := lCan_c.2
  have h2 : ((d1 cFrm).dec [x]).bind lCan_s = some true := by
    show (cFrm.dec x).bind lCan_s = some true
    rw [ha]; rfl
  have hF := h.1 _ _ h2 V args.toList gok hr
  rw [Array.toArray_toList] at hF
  intro w a1 a2 a3 a4
  refine (hF w a1 a2 a3 a4).mono ?_
  rintro e w' ⟨v, V', G', rfl, hh, rvs, m1, rfl⟩
  refine ⟨_, V', G', rfl, hh, ?_⟩
  cases m1 with | cons k1 k2 => cases k2 with | nil => cases k1 with | s _ => rfl
end Su
namespace Go.Proofs.YtnegfdebjikfiaaGreat
open Go Go.ChangeShapes Go.WideShapes Go.ChangeAt Go.RowKit Fly Su
set_option maxRecDepth 100000
theorem ownK : ownKnob Tryz.prog.godebug = none := by kernel_rfl
theorem par7 : Tryz.f7.params = #[28] := by kernel_rfl
theorem res7 : Tryz.f7.resultTypes = #[4] := by kernel_rfl
theorem uBool : Tryz.prog.underlying 4 = some .bool := by kernel_rfl
def formTys : List Nat := [28, 4, 23, 26, 58, 3]
theorem formTys_ok : ∀ t ∈ formTys, okTy Tryz.prog formTys t = true := by
  have : (formTys.all fun t => okTy Tryz.prog formTys t) = true := by kernel_rfl
  exact List.all_eq_true.1 this
theorem affineCancels_lifted (os : Os) (started : os.Started) (H : Type) (enc : TypeId × Value → H) :
    ReturnsInHanded {} Tryz.checked os 7 .any (Rows.affineCancelsSpec.pre6 enc Tryz.prog Tryz.f7 Rows.affineCancelsRow.domain false) (Rows.affineCancelsSpec.post enc Tryz.prog Tryz.f7 false true false false) := by
  refine returnsInHanded_of_change (C := Tryz.checked) ownK started (by kernel_rfl) Tryz.func7
    (ChangeSpec.witness6 (enc := enc) (C := Tryz.checked) false ⟨#[], #[.agg #[.bool false, .int .u64 0, .slice none 0 0, .int .u64 0]], []⟩ 8 (by kernel_rfl) (by kernel_rfl) (by kernel_rfl) (by kernel_rfl)) ?_
  intro W base args ds gs before hval0 hW hcnd _
  refine law_post (P := Tryz.prog) (s := Rows.affineCancelsSpec) (fn := Tryz.f7) formTys_ok (by rw [par7]; decide) res7 uBool rfl (fun ds hds => ?_) hval0 hW fun xs h1 h2 => ?_
  · rw [par7] at hds
    match ds, hds with
    | [d1], _ => rfl
  · rw [par7] at h2
    exact can_fing h1 h2
theorem affineCancels_holds : Rows.AffineCancelsSaid :=
  OpenClaim.holds_of_wide 7 Tryz.f7 rfl rfl rfl rfl rfl rfl rfl ⟨rfl, rfl, rfl, rfl, rfl⟩ rfl rfl rfl rfl rfl (by kernel_rfl) Tryz.func7 (by kernel_rfl)
    (of_decide_eq_true (by kernel_rfl)) (by unfold Func.isWrapper; first | (rw [if_pos (by decide +kernel)]; kernel_rfl) | (rw [if_neg (by decide +kernel)]; exact ⟨rfl, rfl⟩))
    (fun os started H enc _ => affineCancels_lifted os started H enc)
end Go.Proofs.YtnegfdebjikfiaaGreat
