/-
  TreeSame: whatever two programs it is given, the law returns true, and both read as they did. The condition: the listed tables hold what the program lays.
-/
import Derived.Test.YtdmomplfmfhoiaaGreatDoorCards
import Derived.Test.YtdmomplfmfhoiaaGreatDoorShLe
import Derived.Test.YtdmomplfmfhoiaaGreatDoorTrT
import Derived.ProofKit
import Derived.LaidMore
import Derived.OpenShut
import Derived.Stop.Joined
import Derived.ChangeArms
import Derived.Test.YtdmomplfmfhoiaaGreatDoorTrU
import Derived.Test.YtdmomplfmfhoiaaGreatDoorTie
import Derived.SevenTiedAt
namespace Go.Proofs.YtdmomplfmfhoiaaGreatDoor
open Go Go.ChangeShapes Go.WideShapes Go.ChangeAt Go.RowKit Fly Sh
set_option maxRecDepth 100000
theorem ownK : ownKnob Tryz.prog.godebug = none := by kernel_rfl
theorem gSigns : Tryz.prog.globalNamed "flyball/tree.signs" = some 0 := by kernel_rfl
theorem tSigns : (Tryz.prog.globals[0]?).map (·.type) = some 151 := by kernel_rfl
theorem uSigns : Tryz.prog.underlying 151 = some (.array 12 9) := by kernel_rfl
theorem uStr : Tryz.prog.underlying 9 = some .string := by kernel_rfl
theorem cStr : Tryz.prog.cellsOf 9 = 1 := by kernel_rfl
theorem signs_cells {W : World} {enc : TypeId × Value → Unit} {sp : Nat → Bool} {hd : Bool} {cs : Array Value} {fuel : Nat} {p : List MemPlace} (hv0 : W.var? Tryz.prog "flyball/tree.signs" = some cs)
    (h : DataW.trod enc Tryz.prog W 0 sp hd fuel 151 cs.toList = some (Rows.laid_flyball_tree_signs, p)) : SignsV (hv W) := by
  obtain ⟨xs, m, rfl, hx, _, hn, hel⟩ := DataW.trod_array uSigns h
  simp only [Prod.mk.injEq] at hx
  have hx1 := hx.1
  simp only [Rows.laid_flyball_tree_signs, DataW.agg.injEq] at hx1
  intro o ho
  have ho2 : 5 ≤ o ∧ o ≤ 16 := by simpa [isTwo] using ho
  have hi : (o - 5).toNat < 12 := by omega
  have h1 := hel _ hi
  rw [List.getElem?_eq_getElem (by omega)] at h1
  obtain ⟨s, e1, e2, _⟩ := DataW.trod_string uStr h1
  rw [cStr, Nat.mul_one] at e1
  have hc : cs[(o - 5).toNat]? = some (.string s) := by
    have h2 := congrArg (fun l => l[0]?) e1
    simp only [List.getElem?_take, List.getElem?_drop] at h2
    simpa using h2
  have hs : (xs.map (·.1))[(o - 5).toNat]? = some (.lit (.string s.data.toList)) := by
    rw [List.getElem?_map, List.getElem?_eq_getElem (by omega)]
    simp [e2]
  rw [← hx1] at hs
  have hsig : s = ⟨(signB o).toArray⟩ := by
    have hcase : o = 5 ∨ o = 6 ∨ o = 7 ∨ o = 8 ∨ o = 9 ∨ o = 10 ∨ o = 11 ∨ o = 12 ∨ o = 13 ∨ o = 14 ∨ o = 15 ∨ o = 16 := by omega
    obtain ⟨⟨l⟩⟩ := s
    rcases hcase with rfl | rfl | rfl | rfl | rfl | rfl | rfl | rfl | rfl | rfl | rfl | rfl <;>
    · simp at hs
      simp [signB, ← hs]
  subst hsig
  have := World.var?_cell gSigns hv0 (o - 5).toNat
  rw [hc] at this
  have h3 := (rd_of_cell this).2
  exact h3
theorem signs_of {W : World} (h : laidMetH Tryz.prog Rows.treeSameRow.laid W) : SignsV (hv W) := by
  rw [MakeChecks.laidMetH_plain _ _ _ (by kernel_rfl)] at h
  obtain ⟨ps, hL, _⟩ := h
  obtain ⟨g0, t0, cs0, f0, p0, q0, _, _, _, _, hL, _⟩ := hL
  obtain ⟨g1, t1, cs1, f1, p1, q1, _, _, _, _, hL, _⟩ := hL
  obtain ⟨g2, t2, cs2, f2, p2, q2, _, _, _, _, hL, _⟩ := hL
  obtain ⟨g3, t3, cs3, f3, p3, q3, _, _, _, _, hL, _⟩ := hL
  obtain ⟨g4, t4, cs4, f4, p4, q4, hg, ht, hv0, hd, hL, _⟩ := hL
  obtain rfl := Option.some.inj (gSigns.symm.trans hg)
  obtain rfl := Option.some.inj (tSigns.symm.trans ht)
  exact signs_cells hv0 hd
end Go.Proofs.YtdmomplfmfhoiaaGreatDoor
namespace Go.Proofs.YtdmomplfmfhoiaaGreatDoor
open Go Go.ChangeShapes Go.WideShapes Go.ChangeAt Go.RowKit Fly Sh
set_option maxRecDepth 100000
def treeTys : List Nat := [25, 3, 22, 23, 54, 43, 4, 9, 52, 41, 39, 21, 35, 38, 37]
theorem treeTys_ok : ∀ t ∈ treeTys, okTy Tryz.prog treeTys t = true := by
  have : (treeTys.all fun t => okTy Tryz.prog treeTys t) = true := by kernel_rfl
  exact List.all_eq_true.1 this
theorem par4 : Tryz.f4.params = #[25, 25] := by kernel_rfl
theorem res4 : Tryz.f4.resultTypes = #[4] := by kernel_rfl
theorem uBool : Tryz.prog.underlying 4 = some .bool := by kernel_rfl
theorem same_fing {W : World} {args : Array Value} {xs : List T} (hc4 : ∀ {V : View}, SignsV V → ∀ {p q : Pg} {cp cq : List Value}, Pg.Is V p cp → Pg.Is V q cq → PureV Tryz.prog 4 [.agg cp.toArray, .agg cq.toArray] V (.bool true))
    (hs : SignsV (hv W)) (hr : RepA (hv W) xs args.toList) (ht : All2 (IsTy Tryz.prog) [25, 25] xs) : Fing Tryz.prog 4 args (hv W) [] fun v _ _ => v = .bool true := by
  cases ht with | cons t1 ht => cases ht with | cons t2 ht => cases ht with | nil =>
  generalize hl : args.toList = l at hr
  cases hr with | cons r1 hr => cases hr with | cons r2 hr => cases hr with | nil =>
  obtain ⟨p, cp, rfl, hp⟩ := pg_of t1 r1
  obtain ⟨q, cq, rfl, hq⟩ := pg_of t2 r2
  have he : args = [Value.agg cp.toArray, Value.agg cq.toArray].toArray := by
    apply Array.toList_inj.1; rw [hl]
  subst he
  intro w hw _ _ _
  refine (hc4 hs hp hq w hw).mono ?_
  rintro e w' ⟨v, V', G', rfl, hh, rfl, rfl, rfl⟩
  have hnew : ∀ r, hv W r = none → hv W r ≠ none → w.heap.size ≤ r ∨ keys [] r := fun r h0 h1 => absurd h0 h1
  exact ⟨_, hv W, [], rfl, { ext := ⟨hh.ext.os, hh.ext.tape, hh.ext.output, hh.ext.size, (fun k hk _ => hh.ext.block k hk (by simp))⟩, view := hh.view, own := hh.own, free := (fun _ h => by cases h), nodup := List.nodup_nil, sub := hh.sub, newer := hnew }, rfl⟩
noncomputable def dCells : DataW Unit → Array Value
  | .agg l => (l.map fun | .lit (.int k n) => Value.int k n | _ => undef).toArray
  | _ => #[]
/-- The door's world, and the table that is pinned by name. -/
noncomputable def laidW (os : Os) : World :=
  let w := World.doorLaid Tryz.prog 39 os
  { w with heap := w.heap.modify ((Tryz.prog.globalNamed "unicode/utf8.first").getD 0) fun
      | .cells _ t frozen => .cells (dCells Rows.laid_unicode_utf8_first) t frozen
      | o => o }
theorem door_met (os : Os) (args : Array Value) : laidMetH Tryz.prog Rows.treeSameRow.laid ((laidW os).forCall (fun _ _ => 0) ⟨#[], args, []⟩).memory :=
  laidMetH_of_parts3 (fuel := 8) (laidMet_of_run' 8 (by kernel_rfl) (by kernel_rfl)) (by kernel_rfl) (by kernel_rfl)
noncomputable def w0 : Array Value := #[.agg #[.int .i64 0, .slice none 0 0, .slice none 0 0, .slice none 0 0], .agg #[.int .i64 0, .slice none 0 0, .slice none 0 0, .slice none 0 0]]
theorem treeSame_lifted (hc4 : ∀ {V : View}, SignsV V → ∀ {p q : Pg} {cp cq : List Value}, Pg.Is V p cp → Pg.Is V q cq → PureV Tryz.prog 4 [.agg cp.toArray, .agg cq.toArray] V (.bool true)) (os : Os) (started : os.Started) (H : Type) (enc : TypeId × Value → H) :
    ReturnsInHanded {} Tryz.checked os 4 .any (fun w args => (Rows.treeSameSpec.pre enc Tryz.prog Tryz.f4 [] false w args ∧ laidMetH Tryz.prog Rows.treeSameRow.laid w) ∧ sizedMet enc Tryz.prog Tryz.f4 (OpenSpec.ofChange Rows.treeSameSpec) false w args)
      (Rows.treeSameSpec.post enc Tryz.prog Tryz.f4 false true false false) := by
  refine returnsInHanded_of_change_and (C := Tryz.checked) (X := fun w _ => laidMetH Tryz.prog Rows.treeSameRow.laid w) (fun _ _ _ hh h => h.of_heap hh) ownK started (by kernel_rfl) Tryz.func4
    (ChangeSpec.witness_shaped (enc := enc) (C := Tryz.checked) (os := os) (X := fun w _ => laidMetH Tryz.prog Rows.treeSameRow.laid w) false (laidW os) w0 8 rfl (World.shaped_of_RefB (by kernel_rfl) (by kernel_rfl)) (by kernel_rfl) (by kernel_rfl) (by kernel_rfl) (door_met os _)) ?_
  intro W base args ds gs before hval0 hW _ _ hL _
  refine law_post (P := Tryz.prog) (s := Rows.treeSameSpec) (fn := Tryz.f4) treeTys_ok (by rw [par4]; decide) res4 uBool rfl (fun ds hds => ?_) hval0 hW fun xs h1 h2 => ?_
  · rw [par4] at hds
    match ds, hds with
    | [d1, d2], _ => rfl
  · rw [par4] at h2
    exact same_fing hc4 (signs_of hL) h1 h2
end Go.Proofs.YtdmomplfmfhoiaaGreatDoor
namespace Go.Proofs.YtdmomplfmfhoiaaGreatDoor
open Go Go.ChangeShapes Go.WideShapes Go.ChangeAt Go.RowKit Fly Sh
theorem treeSame_row : Rows.TreeSameSaid :=
  OpenClaim.holds_of_wide 4 Tryz.f4 rfl rfl rfl rfl rfl rfl rfl ⟨rfl, rfl, rfl, rfl, rfl⟩ rfl rfl rfl rfl rfl (by kernel_rfl) Tryz.func4 (by kernel_rfl)
    (of_decide_eq_true (by kernel_rfl)) (by unfold Func.isWrapper; first | (rw [if_pos (by decide +kernel)]; kernel_rfl) | (rw [if_neg (by decide +kernel)]; exact ⟨rfl, rfl⟩))
    (fun os started H enc _ => treeSame_lifted (fun hs _ _ _ _ hp hq => Fly.c4 hs hp hq) os started H enc)
theorem treeSame_holds : Rows.TreeSameCardSaid :=
  Claim7.holds_tied_plain_at .later [] [.data, .data, .data, .data, .data, .pinned] true (true, "fcf018e02aead2cab5d65dc806ab36127e66b65df7388a9e906fdb50bd7f7b82") false
    treeSame_row (fun _ h => by cases h) (by kernel_rfl) (fun _ h => by cases h) treeSame_row_tie rfl ⟨rfl, rfl⟩ (by kernel_rfl) rfl
    (fun f fn hf hfn => by
      obtain rfl : f = 4 := Option.some.inj ((show Tryz.prog.funcNamed "flyball/flyballlaw10.TreeSame" = some 4 by kernel_rfl).symm.trans hf) |>.symm
      obtain rfl : fn = Tryz.f4 := (Option.some.inj (Tryz.func4.symm.trans hfn)).symm
      exact ⟨by kernel_rfl, fun j t ht => by
        rw [par4] at ht
        have hm : t ∈ [25, 25] := by simpa using Array.mem_of_getElem? ht
        have hall : ([25, 25].all fun u => !Tryz.prog.wantsStandIn u) = true := by kernel_rfl
        exact (show Tryz.prog.wantsStandIn t = false by simpa using List.all_eq_true.1 hall t hm)⟩)
    (by kernel_rfl)
end Go.Proofs.YtdmomplfmfhoiaaGreatDoor
