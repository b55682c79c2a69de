/-
  The law and its row.
-/
import Derived.Test.YtnegfdebjikfiaaGreatEC01
import Derived.Test.YtnegfdebjikfiaaGreatED02
import Derived.Test.YtnegfdebjikfiaaGreatRows
import Derived.WalkKit
import Derived.ProofKit
set_option maxRecDepth 10000
namespace Su
open Go Fly Go.Proofs
section
variable {P : Program} {fuel t : Nat} {xs : List T}
def tysOf (P : Program) (t : Nat) : Option (List Nat) := match P.underlying t with
  | some (.struct fs) => some (fs.toList.map (·.type))
  | _ => none
theorem all2_map {α β γ : Type} {R : γ → β → Prop} {f : α → γ} : ∀ {l : List α} {m : List β}, All2 (fun a b => R (f a) b) l m → All2 R (l.map f) m
  | _, _, .nil => .nil
  | _, _, .cons h h' => .cons h (all2_map h')
theorem struct_inv {ts : List Nat} (hu : tysOf P t = some ts) (h : Shp P fuel t xs) : ∃ f' parts, fuel = f' + 1 ∧ xs = List.flatten parts ∧ All2 (Shp P f') ts parts := by
  cases fuel with
  | zero => exact absurd h (by simp [Shp])
  | succ fuel =>
    unfold tysOf at hu
    split at hu
    · rename_i fs hs
      simp only [Option.some.injEq] at hu; subst hu
      simp only [Shp, hs] at h
      obtain ⟨parts, h1, h2⟩ := h
      exact ⟨fuel, parts, rfl, h1, all2_map (f := fun f : Field => f.type) h2⟩
    · simp at hu
theorem int_inv {k : IntKind} (hu : P.underlying t = some (.int k)) (h : Shp P fuel t xs) : ∃ n, xs = [.s (.int k n)] := by
  cases fuel with
  | zero => exact absurd h (by simp [Shp])
  | succ fuel => simp only [Shp, hu] at h; obtain ⟨n, h, _⟩ := h; exact ⟨n, h⟩
theorem bool_inv (hu : P.underlying t = some .bool) (h : Shp P fuel t xs) : ∃ n, xs = [.s (.bool n)] := by
  cases fuel with
  | zero => exact absurd h (by simp [Shp])
  | succ fuel => simp only [Shp, hu] at h; exact h
theorem slice_inv {e : Nat} (hu : P.underlying t = some (.slice e)) (h : Shp P fuel t xs) : ∃ f' l, fuel = f' + 1 ∧ xs = [.sl (P.cellsOf e) l] ∧ ∀ x ∈ l, x.isAgg = isGroup P e ∧ Shp P f' e x.cells := by
  cases fuel with
  | zero => exact absurd h (by simp [Shp])
  | succ fuel => simp only [Shp, hu] at h; obtain ⟨l, h, _, h2⟩ := h; exact ⟨fuel, l, rfl, h, h2⟩
end
theorem agg_of {x : T} (h : x.isAgg = true) : x = .agg x.cells := by cases x <;> first | rfl | (simp [T.isAgg] at h)
theorem tm_of {fuel : Nat} {x : T} (h0 : x.isAgg = isGroup Tryz.prog 58) (h : Shp Tryz.prog fuel 58 x.cells) : ∃ a, unTm x = some a := by
  have hg : isGroup Tryz.prog 58 = true := by kernel_rfl
  rw [hg] at h0
  have hx := agg_of h0
  obtain ⟨f', parts, rfl, h1, h2⟩ := struct_inv (ts := [3, 23]) (by kernel_rfl) h
  cases h2 with | cons p1 h2 => cases h2 with | cons p2 h2 => cases h2 with | nil =>
  obtain ⟨i, rfl⟩ := int_inv (k := .i64) (by kernel_rfl) p1
  obtain ⟨c, rfl⟩ := int_inv (k := .u64) (by kernel_rfl) p2
  rw [hx, h1]
  refine ⟨⟨i, c⟩, ?_⟩
  show ((asI .i64 (.t (.s (.int .i64 i)))).bind fun i => (asI .u64 (.t (.s (.int .u64 c)))).bind fun c => some (⟨i, c⟩ : Su.Tm)) = _
  simp [asI]
  rfl
theorem tms_of : ∀ {l : List T} {fuel : Nat}, (∀ x ∈ l, x.isAgg = isGroup Tryz.prog 58 ∧ Shp Tryz.prog fuel 58 x.cells) → ∃ a, unTms l = some a
  | [], _, _ => ⟨[], rfl⟩
  | x :: l, fuel, h => by
    obtain ⟨a, ha⟩ := tm_of (h x (List.mem_cons_self ..)).1 (h x (List.mem_cons_self ..)).2
    obtain ⟨b, hb⟩ := tms_of (l := l) fun y hy => h y (List.mem_cons_of_mem _ hy)
    exact ⟨a :: b, by simp [unTms, ha, hb]⟩
theorem form_of {x : T} (h : IsTy Tryz.prog 28 x) : ∃ a, cFrm.dec x = some a := by
  obtain ⟨h0, fuel, h⟩ := h
  have hg : isGroup Tryz.prog 28 = true := by kernel_rfl
  rw [hg] at h0
  have hx := agg_of h0
  obtain ⟨f', parts, rfl, h1, h2⟩ := struct_inv (ts := [4, 23, 26, 23]) (by kernel_rfl) h
  cases h2 with | cons p1 h2 => cases h2 with | cons p2 h2 => cases h2 with | cons p3 h2 => cases h2 with | cons p4 h2 => cases h2 with | nil =>
  obtain ⟨b, rfl⟩ := bool_inv (by kernel_rfl) p1
  obtain ⟨m, rfl⟩ := int_inv (k := .u64) (by kernel_rfl) p2
  obtain ⟨f2, l, rfl, rfl, h3⟩ := slice_inv (e := 58) (by kernel_rfl) p3
  obtain ⟨e, rfl⟩ := int_inv (k := .u64) (by kernel_rfl) p4
  obtain ⟨ts, hts⟩ := tms_of h3
  have hc : Tryz.prog.cellsOf 58 = 2 := by kernel_rfl
  rw [hx, h1, hc]
  refine ⟨(b, (m, (ts, e))), ?_⟩
  show ((asB (.t (.s (.bool b)))).bind fun b => (((asI .u64 (.t (.s (.int .u64 m)))).bind fun m => ((cTms.dec (.sl 2 l)).bind fun t => (asI .u64 (.t (.s (.int .u64 e)))).bind fun e => some (t, e)).bind fun q => some (m, q))).bind fun q => some (b, q)) = _
  have h4 : cTms.dec (.sl 2 l) = some ts := hts
  simp [asI, asB, h4]
theorem gok {V : View} : GOK tb V := fun _ _ h => by cases h
end Su
namespace Go.Proofs.YtnegfdebjikfiaaGreat
open Go Go.ChangeShapes Go.WideShapes Go.ChangeAt Go.RowKit Fly Su
set_option maxRecDepth 100000
theorem ownK : ownKnob Tryz.prog.godebug = none := by kernel_rfl
theorem uBool : Tryz.prog.underlying 4 = some .bool := by kernel_rfl
def formTys : List Nat := [28, 4, 23, 26, 58, 3]
theorem formTys_ok : ∀ t ∈ formTys, okTy Tryz.prog formTys t = true := by
  have : (formTys.all fun t => okTy Tryz.prog formTys t) = true := by kernel_rfl
  exact List.all_eq_true.1 this
end Go.Proofs.YtnegfdebjikfiaaGreat
