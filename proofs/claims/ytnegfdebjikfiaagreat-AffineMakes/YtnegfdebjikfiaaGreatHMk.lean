/-
  The row: affineMakes_holds. The condition: none.
-/
import Derived.Test.YtnegfdebjikfiaaGreatED02
import Derived.Test.YtnegfdebjikfiaaGreatSuLd
set_option maxRecDepth 10000
namespace Su
open Go Fly Go.Proofs
theorem of_one {x y : T} (h0 : x.isAgg = false) (h : x.cells = [y]) : x = y := by
  cases x <;> first | (cases h0; done) | (exact (List.cons.inj h).1)
theorem flt_of {x : T} (h : IsTy Tryz.prog 23 x) : ∃ a, (cI .u64).dec x = some a := by
  obtain ⟨h0, fuel, h⟩ := h
  have hg : isGroup Tryz.prog 23 = false := by kernel_rfl
  rw [hg] at h0
  obtain ⟨n, hn⟩ := int_inv (k := .u64) (by kernel_rfl) h
  refine ⟨n, ?_⟩
  rw [of_one h0 hn]
  show asI .u64 (.t (.s (.int .u64 n))) = some n
  simp [asI]
theorem int_of {x : T} (h : IsTy Tryz.prog 3 x) : ∃ a, (cI .i64).dec x = some a := by
  obtain ⟨h0, fuel, h⟩ := h
  have hg : isGroup Tryz.prog 3 = false := by kernel_rfl
  rw [hg] at h0
  obtain ⟨n, hn⟩ := int_inv (k := .i64) (by kernel_rfl) h
  refine ⟨n, ?_⟩
  rw [of_one h0 hn]
  show asI .i64 (.t (.s (.int .i64 n))) = some n
  simp [asI]
theorem span_of {x : T} (h : IsTy Tryz.prog 25 x) : ∃ a, cSpn.dec x = some a := by
  obtain ⟨h0, fuel, h⟩ := h
  have hg : isGroup Tryz.prog 25 = true := by kernel_rfl
  rw [hg] at h0
  have hx := agg_of h0
  obtain ⟨f', parts, rfl, h1, h2⟩ := struct_inv (ts := [4, 23, 23]) (by kernel_rfl) h
  cases h2 with | cons p1 h2 => cases h2 with | cons p2 h2 => cases h2 with | cons p3 h2 => cases h2 with | nil =>
  obtain ⟨b, rfl⟩ := bool_inv (by kernel_rfl) p1
  obtain ⟨lo, rfl⟩ := int_inv (k := .u64) (by kernel_rfl) p2
  obtain ⟨hi, rfl⟩ := int_inv (k := .u64) (by kernel_rfl) p3
  rw [hx, h1]
  refine ⟨(b, (lo, hi)), ?_⟩
  show ((asB (.t (.s (.bool b)))).bind fun b => ((asI .u64 (.t (.s (.int .u64 lo)))).bind fun m => (asI .u64 (.t (.s (.int .u64 hi)))).bind fun e => some (m, e)).bind fun q => some (b, q)) = _
  simp [asI, asB]
theorem mak_fing {V : View} {args : Array Value} {xs : List T} (hr : RepA V xs args.toList) (ht : All2 (IsTy Tryz.prog) [23, 25, 3, 28, 23] xs) : Fing Tryz.prog 3 args V [] fun v _ _ => v = .bool true := by
  cases ht with | @cons _ x1 _ _ t1 ht => cases ht with | @cons _ x2 _ _ t2 ht => cases ht with | @cons _ x3 _ _ t3 ht => cases ht with | @cons _ x4 _ _ t4 ht => cases ht with | @cons _ x5 _ _ t5 ht => cases ht with | nil =>
  obtain ⟨f, hf⟩ := flt_of t1
  obtain ⟨s, hs⟩ := span_of t2
  obtain ⟨i, hi⟩ := int_of t3
  obtain ⟨a, ha⟩ := form_of t4
  obtain ⟨e, he⟩ := flt_of t5
  have h : (∀ xs y, ((dc (cI .u64) (dc cSpn (dc (cI .i64) (dc cFrm (d1 (cI .u64)))))).dec xs).bind lMak_s = some y → ∀ V vs, GOK tb V → RepA V xs vs → Fing Tryz.prog 3 vs.toArray V [] fun v V' _ => ∃ rvs, RepA V' ((d1 cB).enc y) rvs ∧ v = resV rvs) ∧ _ := lMak_c.2
  have h2 : ((dc (cI .u64) (dc cSpn (dc (cI .i64) (dc cFrm (d1 (cI .u64)))))).dec [x1, x2, x3, x4, x5]).bind lMak_s = some true := by
    show (((cI .u64).dec x1).bind fun f => (((cSpn.dec x2).bind fun s => (((cI .i64).dec x3).bind fun i => ((cFrm.dec x4).bind fun a => ((cI .u64).dec x5).bind fun e => some (a, e)).bind fun q => some (i, q)).bind fun q => some (s, q)).bind fun q => some (f, q))).bind lMak_s = some true
    rw [hf, hs, hi, ha, he]; rfl
  have hF := h.1 _ _ h2 V args.toList gok hr
  rw [Array.toArray_toList] at hF
  intro w a1 a2 a3 a4
  refine (hF w a1 a2 a3 a4).mono ?_
  rintro e w' ⟨v, V', G', rfl, hh, rvs, m1, rfl⟩
  refine ⟨_, V', G', rfl, hh, ?_⟩
  cases m1 with | cons k1 k2 => cases k2 with | nil => cases k1 with | s _ => rfl
end Su
namespace Go.Proofs.YtnegfdebjikfiaaGreat
open Go Go.ChangeShapes Go.WideShapes Go.ChangeAt Go.RowKit Fly Su
set_option maxRecDepth 100000
theorem par3 : Tryz.f3.params = #[23, 25, 3, 28, 23] := by kernel_rfl
theorem res3 : Tryz.f3.resultTypes = #[4] := by kernel_rfl
def makTys : List Nat := [23, 25, 3, 28, 4, 26, 58]
theorem makTys_ok : ∀ t ∈ makTys, okTy Tryz.prog makTys t = true := by
  have : (makTys.all fun t => okTy Tryz.prog makTys t) = true := by kernel_rfl
  exact List.all_eq_true.1 this
theorem affineMakes_lifted (os : Os) (started : os.Started) (H : Type) (enc : TypeId × Value → H) :
    ReturnsInHanded {} Tryz.checked os 3 .any (Rows.affineMakesSpec.pre6 enc Tryz.prog Tryz.f3 Rows.affineMakesRow.domain false) (Rows.affineMakesSpec.post enc Tryz.prog Tryz.f3 false true false false) := by
  refine returnsInHanded_of_change (C := Tryz.checked) ownK started (by kernel_rfl) Tryz.func3
    (ChangeSpec.witness6 (enc := enc) (C := Tryz.checked) false ⟨#[], #[.int .u64 0, .agg #[.bool false, .int .u64 0, .int .u64 0], .int .i64 0, .agg #[.bool false, .int .u64 0, .slice none 0 0, .int .u64 0], .int .u64 0], []⟩ 8 (by kernel_rfl) (by kernel_rfl) (by kernel_rfl) (by kernel_rfl)) ?_
  intro W base args ds gs before hval0 hW hcnd _
  refine law_post (P := Tryz.prog) (s := Rows.affineMakesSpec) (fn := Tryz.f3) makTys_ok (by rw [par3]; decide) res3 uBool rfl (fun ds hds => ?_) hval0 hW fun xs h1 h2 => ?_
  · rw [par3] at hds
    match ds, hds with
    | [d1, d2, d3, d4, d5], _ => rfl
  · rw [par3] at h2
    exact mak_fing h1 h2
theorem affineMakes_holds : Rows.AffineMakesSaid :=
  OpenClaim.holds_of_wide 3 Tryz.f3 rfl rfl rfl rfl rfl rfl rfl ⟨rfl, rfl, rfl, rfl, rfl⟩ rfl rfl rfl rfl rfl (by kernel_rfl) Tryz.func3 (by kernel_rfl)
    (of_decide_eq_true (by kernel_rfl)) (by unfold Func.isWrapper; first | (rw [if_pos (by decide +kernel)]; kernel_rfl) | (rw [if_neg (by decide +kernel)]; exact ⟨rfl, rfl⟩))
    (fun os started H enc _ => affineMakes_lifted os started H enc)
end Go.Proofs.YtnegfdebjikfiaaGreat
