/-
  The row: affineProducts_holds. The condition: none.
-/
import Derived.Test.YtnegfdebjikfiaaGreatED02
import Derived.Test.YtnegfdebjikfiaaGreatSuLd
set_option maxRecDepth 10000
namespace Su
open Go Fly Go.Proofs
theorem pro_fing {V : View} {args : Array Value} {xs : List T} (hr : RepA V xs args.toList) (ht : All2 (IsTy Tryz.prog) [28, 28] xs) : Fing Tryz.prog 5 args V [] fun v _ _ => v = .bool true := by
  cases ht with | @cons _ x _ _ t1 ht => cases ht with | @cons _ z _ _ t2 ht => cases ht with | nil =>
  obtain ⟨a, ha⟩ := form_of t1
  obtain ⟨b, hb⟩ := form_of t2
  have h : (∀ xs y, ((dc cFrm (d1 cFrm)).dec xs).bind lPro_s = some y → ∀ V vs, GOK tb V → RepA V xs vs → Fing Tryz.prog 5 vs.toArray V [] fun v V' _ => ∃ rvs, RepA V' ((d1 cB).enc y) rvs ∧ v = resV rvs) ∧ _ := lPro_c.2
  have h2 : ((dc cFrm (d1 cFrm)).dec [x, z]).bind lPro_s = some true := by
    show ((cFrm.dec x).bind fun a => (cFrm.dec z).bind fun b => some (a, b)).bind lPro_s = some true
    rw [ha, hb]; rfl
  have hF := h.1 _ _ h2 V args.toList gok hr
  rw [Array.toArray_toList] at hF
  intro w a1 a2 a3 a4
  refine (hF w a1 a2 a3 a4).mono ?_
  rintro e w' ⟨v, V', G', rfl, hh, rvs, m1, rfl⟩
  refine ⟨_, V', G', rfl, hh, ?_⟩
  cases m1 with | cons k1 k2 => cases k2 with | nil => cases k1 with | s _ => rfl
end Su
namespace Go.Proofs.YtnegfdebjikfiaaGreat
open Go Go.ChangeShapes Go.WideShapes Go.ChangeAt Go.RowKit Fly Su
set_option maxRecDepth 100000
theorem par5 : Tryz.f5.params = #[28, 28] := by kernel_rfl
theorem res5 : Tryz.f5.resultTypes = #[4] := by kernel_rfl
theorem affineProducts_lifted (os : Os) (started : os.Started) (H : Type) (enc : TypeId × Value → H) :
    ReturnsInHanded {} Tryz.checked os 5 .any (Rows.affineProductsSpec.pre6 enc Tryz.prog Tryz.f5 Rows.affineProductsRow.domain false) (Rows.affineProductsSpec.post enc Tryz.prog Tryz.f5 false true false false) := by
  refine returnsInHanded_of_change (C := Tryz.checked) ownK started (by kernel_rfl) Tryz.func5
    (ChangeSpec.witness6 (enc := enc) (C := Tryz.checked) false ⟨#[], #[.agg #[.bool false, .int .u64 0, .slice none 0 0, .int .u64 0], .agg #[.bool false, .int .u64 0, .slice none 0 0, .int .u64 0]], []⟩ 8 (by kernel_rfl) (by kernel_rfl) (by kernel_rfl) (by kernel_rfl)) ?_
  intro W base args ds gs before hval0 hW hcnd _
  refine law_post (P := Tryz.prog) (s := Rows.affineProductsSpec) (fn := Tryz.f5) formTys_ok (by rw [par5]; decide) res5 uBool rfl (fun ds hds => ?_) hval0 hW fun xs h1 h2 => ?_
  · rw [par5] at hds
    match ds, hds with
    | [d1, d2], _ => rfl
  · rw [par5] at h2
    exact pro_fing h1 h2
theorem affineProducts_holds : Rows.AffineProductsSaid :=
  OpenClaim.holds_of_wide 5 Tryz.f5 rfl rfl rfl rfl rfl rfl rfl ⟨rfl, rfl, rfl, rfl, rfl⟩ rfl rfl rfl rfl rfl (by kernel_rfl) Tryz.func5 (by kernel_rfl)
    (of_decide_eq_true (by kernel_rfl)) (by unfold Func.isWrapper; first | (rw [if_pos (by decide +kernel)]; kernel_rfl) | (rw [if_neg (by decide +kernel)]; exact ⟨rfl, rfl⟩))
    (fun os started H enc _ => affineProducts_lifted os started H enc)
end Go.Proofs.YtnegfdebjikfiaaGreat
