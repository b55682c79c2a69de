/-
  Contracts of functions of flyball/tree and its checks, by walks.
-/
import Derived.Test.YtdmomplfmfhoiaaGreatDoorTrA
namespace Fly
open Go Go.Proofs
set_option maxRecDepth 10000
attribute [local irreducible] WC WE WR Opr St Go.Calls Fine Pure FinL Owe One Does
theorem Ex.Is.lit {V : View} {x : Ex} {c : List Value} (h : Ex.Is V x c) : ∃ a0 a1 a2 a3 a4 a5 a6 : Value, c = [a0, a1, a2, a3, a4, a5, a6] := by
  cases x with
  | mk op p b i f nm es =>
    simp only [Ex.Is] at h
    obtain ⟨sl, css, rfl, _⟩ := h
    exact ⟨_, _, _, _, _, _, _, rfl⟩
mutual
theorem c46 {V : View} : ∀ (x y : St_) {cx cy : List Value}, St_.Is V x cx → St_.Is V y cy → PureV Tryz.prog 46 [.agg cx.toArray, .agg cy.toArray] V (.bool (sameS x y))
  | .mk kd p nm ix ex lo hi tn el, .mk kd' p' nm' ix' ex' lo' hi' tn' el', cx, cy, hx, hy => by
    simp only [St_.Is] at hx hy
    obtain ⟨s1, c1, ce, s2, c2, s3, c3, rfl, g1, h1, he, g2, h2, g3, h3⟩ := hx
    obtain ⟨s1', c1', ce', s2', c2', s3', c3', rfl, g1', h1', he', g2', h2', g3', h3'⟩ := hy
    obtain ⟨a0, a1, a2, a3, a4, a5, a6, rfl⟩ := he.lit
    obtain ⟨a0', a1', a2', a3', a4', a5', a6', rfl⟩ := he'.lit
    simp only [List.cons_append, List.nil_append]
    have k1 := c47 (f := 18) (g := at2 sameE ix.list ix'.list) g1 g1' (Exs.parts h1) (Exs.parts h1') rfl (by
      rintro i c c' hi hi' ⟨x, h1, h2⟩ ⟨y, h3, h4⟩
      simp only [at2, h1, h3]
      exact c18 x y h2 h4)
    have k2 := c18 ex ex' he he'
    have k3 := c45 (f := 46) (g := at2 sameS tn.list tn'.list) g2 g2' (Sts.parts h2) (Sts.parts h2') rfl (by
      rintro i c c' hi hi' ⟨x, h1, h2⟩ ⟨y, h3, h4⟩
      simp only [at2, h1, h3]
      exact c46s tn x (List.mem_of_getElem? h1) y h2 h4)
    have k4 := c45 (f := 46) (g := at2 sameS el.list el'.list) g3 g3' (Sts.parts h3) (Sts.parts h3') rfl (by
      rintro i c c' hi hi' ⟨x, h1, h2⟩ ⟨y, h3, h4⟩
      simp only [at2, h1, h3]
      exact c46s el x (List.mem_of_getElem? h1) y h2 h4)
    refine pureV_enter Tryz.func46 rfl Tryz.ntmps46 rfl ?_; intro X w hM hw hV0 hR; dsimp only [argL, Nat.zero_add, Nat.reduceAdd]
    (repeat' (first | refine wc_seq ?_ | refine wc_region ?_ | refine wr_nil ?_ | refine we_code ?_ | refine wc_block ?_ | refine wc_skip ?_ | refine we_blk ?_ | refine wc_exit ?_ | refine we_exit_code ?_ | refine we_exit_here ?_ | refine we_exit_on rfl ?_ | refine we_exit_lp ?_ | refine wc_ret ?_ | ((first | refine w_cons rfl ?_ | refine w_cons0 ?_ | refine w_yes rfl rfl rfl ?_); (first | (refine op_pureV tb rfl rfl k1 ?_) | (refine op_pureV tb rfl rfl k2 ?_) | (refine op_pureV tb rfl rfl k3 ?_) | (refine op_pureV tb rfl rfl k4 ?_) | refine op_move rfl ?_ | refine op_assign rfl ?_ | refine op_eql rfl rfl ?_ | refine op_neq rfl rfl ?_ | refine op_lss rfl rfl ?_ | refine op_leq rfl rfl ?_ | refine op_gtr rfl rfl ?_ | refine op_geq rfl rfl ?_ | refine op_extract rfl rfl ?_ | refine op_not rfl ?_ | refine op_pick_t rfl rfl ?_ | refine op_pick_f rfl rfl ?_ | refine op_addi rfl rfl (by omega) (by omega) ?_ | refine op_subi rfl rfl (by omega) (by omega) ?_ | refine op_muli rfl rfl (by omega) (by omega) ?_ | refine op_add rfl rfl ?_ | refine op_sub rfl rfl ?_ | refine op_mul rfl rfl ?_ | refine op_fieldAddr tb rfl rfl ?_ | refine op_field1 tb rfl rfl rfl ?_ | refine op_and rfl rfl ?_ | refine op_or rfl rfl ?_ | refine op_xor rfl rfl ?_ | refine op_andNot rfl rfl ?_ | refine op_shl rfl rfl (by decide) ?_ | refine op_shr rfl rfl (by decide) ?_ | refine op_eqs rfl rfl ?_ | refine op_neqs rfl rfl ?_ | refine op_eqbd rfl rfl (by kernel_rfl) ?_ | refine op_neqbd rfl rfl (by kernel_rfl) ?_ | refine op_convert tb rfl rfl rfl ?_ | refine op_neg rfl ?_ | refine op_len tb rfl rfl rfl ?_ | (apply op_load1 tb rfl rfl; (· (first | (refine At.own (?_); repeat (first | exact Has.here | refine Has.there ?_)) | exact At.seen (by assumption))); (· exact rfl)) | (apply op_loadN tb rfl rfl; (· (first | (refine At.own (?_); repeat (first | exact Has.here | refine Has.there ?_)) | exact At.seen (by assumption))); (· exact rfl)) | (apply op_store1 tb rfl rfl rfl rfl rfl; (· (repeat (first | exact Upd.here | apply Upd.there))); (· exact rfl)) | (apply op_storeN tb rfl rfl rfl rfl rfl; (· (repeat (first | exact Upd.here | apply Upd.there))); (· exact rfl)) | (apply op_build tb (by kernel_rfl) rfl (rfl : tb.fo _ 0 = _); (· (repeat (first | exact Fill.nil | (apply Fill.cons; (· exact rfl); (· exact rfl); (· exact rfl); (· exact rfl); (· exact rfl)))))) | (refine op_boxN rfl ?_; intro b) | (refine op_box1 rfl rfl ?_; intro b) | (refine op_alloc tb rfl ?_; intro b) | (apply op_buildSlice tb; (· exact rfl); (· exact rfl); (· exact rfl); (· decide); (· (repeat (first | exact Cat.nil | (apply Cat.cons; (· exact rfl); (· exact rfl); (· exact rfl)) | exact App.nil | apply App.cons))); intro b))) | refine w_no rfl rfl rfl rfl ?_ | refine wc_cond_t rfl ?_ | refine wc_cond_f rfl ?_ | refine wc_if rfl (fun _ => ?_) (fun _ => ?_) | refine wc_ifn rfl (fun _ => ?_) (fun _ => ?_) | refine w_splitd rfl rfl (fun _ => ?_) (fun _ => ?_) | refine w_splitn rfl rfl (fun _ => ?_) (fun _ => ?_) | refine wc_ifnb rfl (fun _ => ?_) (fun _ => ?_) | refine wc_ifb rfl (fun _ => ?_) (fun _ => ?_) | refine w_splitnb rfl rfl (fun _ => ?_) (fun _ => ?_) | refine w_splitb rfl rfl (fun _ => ?_) (fun _ => ?_)))
    all_goals (refine pureV_ret hM hw hV0 hR (res1 rfl rfl) ?_)
    all_goals (simp only [sameS, sameEs_all, sameSs_all]; simp [*])
  termination_by structural x => x
theorem c46s {V : View} : ∀ (es : Sts), ∀ x ∈ es.list, ∀ (y : St_) {cx cy : List Value}, St_.Is V x cx → St_.Is V y cy → PureV Tryz.prog 46 [.agg cx.toArray, .agg cy.toArray] V (.bool (sameS x y))
  | .nil, x, hm, _, _, _, _, _ => by simp [Sts.list] at hm
  | .cons e r, x, hm, y, _, _, hx, hy => by
    rcases List.mem_cons.1 hm with h | h
    · rw [h] at hx ⊢; exact c46 e y hx hy
    · exact c46s r x h y hx hy
  termination_by structural x => x
end
theorem c44 {V : View} (x y : Dc) {cx cy : List Value} (hx : Dc.Is V x cx) (hy : Dc.Is V y cy) : PureV Tryz.prog 44 [.agg cx.toArray, .agg cy.toArray] V (.bool (sameD x y)) := by
  obtain ⟨ce, cf, rfl, he, hf⟩ := hx
  obtain ⟨ce', cf', rfl, he', hf'⟩ := hy
  have k1 := c18 _ _ he he'
  have k2 := c18 _ _ hf hf'
  obtain ⟨a0, a1, a2, a3, a4, a5, a6, rfl⟩ := he.lit
  obtain ⟨a0', a1', a2', a3', a4', a5', a6', rfl⟩ := he'.lit
  obtain ⟨b0, b1, b2, b3, b4, b5, b6, rfl⟩ := hf.lit
  obtain ⟨b0', b1', b2', b3', b4', b5', b6', rfl⟩ := hf'.lit
  simp only [List.cons_append, List.nil_append]
  refine pureV_enter Tryz.func44 rfl Tryz.ntmps44 rfl ?_; intro X w hM hw hV0 hR; dsimp only [argL, Nat.zero_add, Nat.reduceAdd]
  (repeat' (first | refine wc_seq ?_ | refine wc_region ?_ | refine wr_nil ?_ | refine we_code ?_ | refine wc_block ?_ | refine wc_skip ?_ | refine we_blk ?_ | refine wc_exit ?_ | refine we_exit_code ?_ | refine we_exit_here ?_ | refine we_exit_on rfl ?_ | refine we_exit_lp ?_ | refine wc_ret ?_ | ((first | refine w_cons rfl ?_ | refine w_cons0 ?_ | refine w_yes rfl rfl rfl ?_); (first | (refine op_pureV tb rfl rfl k1 ?_) | (refine op_pureV tb rfl rfl k2 ?_) | refine op_move rfl ?_ | refine op_assign rfl ?_ | refine op_eql rfl rfl ?_ | refine op_neq rfl rfl ?_ | refine op_lss rfl rfl ?_ | refine op_leq rfl rfl ?_ | refine op_gtr rfl rfl ?_ | refine op_geq rfl rfl ?_ | refine op_extract rfl rfl ?_ | refine op_not rfl ?_ | refine op_pick_t rfl rfl ?_ | refine op_pick_f rfl rfl ?_ | refine op_addi rfl rfl (by omega) (by omega) ?_ | refine op_subi rfl rfl (by omega) (by omega) ?_ | refine op_muli rfl rfl (by omega) (by omega) ?_ | refine op_add rfl rfl ?_ | refine op_sub rfl rfl ?_ | refine op_mul rfl rfl ?_ | refine op_fieldAddr tb rfl rfl ?_ | refine op_field1 tb rfl rfl rfl ?_ | refine op_and rfl rfl ?_ | refine op_or rfl rfl ?_ | refine op_xor rfl rfl ?_ | refine op_andNot rfl rfl ?_ | refine op_shl rfl rfl (by decide) ?_ | refine op_shr rfl rfl (by decide) ?_ | refine op_eqs rfl rfl ?_ | refine op_neqs rfl rfl ?_ | refine op_eqbd rfl rfl (by kernel_rfl) ?_ | refine op_neqbd rfl rfl (by kernel_rfl) ?_ | refine op_convert tb rfl rfl rfl ?_ | refine op_neg rfl ?_ | refine op_len tb rfl rfl rfl ?_ | (apply op_load1 tb rfl rfl; (· (first | (refine At.own (?_); repeat (first | exact Has.here | refine Has.there ?_)) | exact At.seen (by assumption))); (· exact rfl)) | (apply op_loadN tb rfl rfl; (· (first | (refine At.own (?_); repeat (first | exact Has.here | refine Has.there ?_)) | exact At.seen (by assumption))); (· exact rfl)) | (apply op_store1 tb rfl rfl rfl rfl rfl; (· (repeat (first | exact Upd.here | apply Upd.there))); (· exact rfl)) | (apply op_storeN tb rfl rfl rfl rfl rfl; (· (repeat (first | exact Upd.here | apply Upd.there))); (· exact rfl)) | (apply op_build tb (by kernel_rfl) rfl (rfl : tb.fo _ 0 = _); (· (repeat (first | exact Fill.nil | (apply Fill.cons; (· exact rfl); (· exact rfl); (· exact rfl); (· exact rfl); (· exact rfl)))))) | (refine op_boxN rfl ?_; intro b) | (refine op_box1 rfl rfl ?_; intro b) | (refine op_alloc tb rfl ?_; intro b) | (apply op_buildSlice tb; (· exact rfl); (· exact rfl); (· exact rfl); (· decide); (· (repeat (first | exact Cat.nil | (apply Cat.cons; (· exact rfl); (· exact rfl); (· exact rfl)) | exact App.nil | apply App.cons))); intro b))) | refine w_no rfl rfl rfl rfl ?_ | refine wc_cond_t rfl ?_ | refine wc_cond_f rfl ?_ | refine wc_if rfl (fun _ => ?_) (fun _ => ?_) | refine wc_ifn rfl (fun _ => ?_) (fun _ => ?_) | refine w_splitd rfl rfl (fun _ => ?_) (fun _ => ?_) | refine w_splitn rfl rfl (fun _ => ?_) (fun _ => ?_) | refine wc_ifnb rfl (fun _ => ?_) (fun _ => ?_) | refine wc_ifb rfl (fun _ => ?_) (fun _ => ?_) | refine w_splitnb rfl rfl (fun _ => ?_) (fun _ => ?_) | refine w_splitb rfl rfl (fun _ => ?_) (fun _ => ?_)))
  all_goals (refine pureV_ret hM hw hV0 hR (res1 rfl rfl) ?_)
  all_goals (simp only [sameD]; simp [*])
theorem c17 {V : View} (x y : Pg) {cx cy : List Value} (hx : Pg.Is V x cx) (hy : Pg.Is V y cy) : PureV Tryz.prog 17 [.agg cx.toArray, .agg cy.toArray] V (.bool (sameP x y)) := by
  obtain ⟨sd, cd, si, ci, ss, cS, rfl, g1, h1, g2, h2, g3, h3⟩ := hx
  obtain ⟨sd', cd', si', ci', ss', cS', rfl, g1', h1', g2', h2', g3', h3'⟩ := hy
  have k1 := c43 (f := 44) (g := at2 sameD x.ds y.ds) g1 g1' (DcsIs.parts h1) (DcsIs.parts h1') rfl (by
    rintro i c c' hi hi' ⟨x, h1, h2⟩ ⟨y, h3, h4⟩
    simp only [at2, h1, h3]
    exact c44 x y h2 h4)
  have k2 := c45 (f := 46) (g := at2 sameS x.ini.list y.ini.list) g2 g2' (Sts.parts h2) (Sts.parts h2') rfl (by
    rintro i c c' hi hi' ⟨x, h1, h2⟩ ⟨y, h3, h4⟩
    simp only [at2, h1, h3]
    exact c46 x y h2 h4)
  have k3 := c45 (f := 46) (g := at2 sameS x.step.list y.step.list) g3 g3' (Sts.parts h3) (Sts.parts h3') rfl (by
    rintro i c c' hi hi' ⟨x, h1, h2⟩ ⟨y, h3, h4⟩
    simp only [at2, h1, h3]
    exact c46 x y h2 h4)
  refine pureV_enter Tryz.func17 rfl Tryz.ntmps17 rfl ?_; intro X w hM hw hV0 hR; dsimp only [argL, Nat.zero_add, Nat.reduceAdd]
  (repeat' (first | refine wc_seq ?_ | refine wc_region ?_ | refine wr_nil ?_ | refine we_code ?_ | refine wc_block ?_ | refine wc_skip ?_ | refine we_blk ?_ | refine wc_exit ?_ | refine we_exit_code ?_ | refine we_exit_here ?_ | refine we_exit_on rfl ?_ | refine we_exit_lp ?_ | refine wc_ret ?_ | ((first | refine w_cons rfl ?_ | refine w_cons0 ?_ | refine w_yes rfl rfl rfl ?_); (first | (refine op_pureV tb rfl rfl k1 ?_) | (refine op_pureV tb rfl rfl k2 ?_) | (refine op_pureV tb rfl rfl k3 ?_) | refine op_move rfl ?_ | refine op_assign rfl ?_ | refine op_eql rfl rfl ?_ | refine op_neq rfl rfl ?_ | refine op_lss rfl rfl ?_ | refine op_leq rfl rfl ?_ | refine op_gtr rfl rfl ?_ | refine op_geq rfl rfl ?_ | refine op_extract rfl rfl ?_ | refine op_not rfl ?_ | refine op_pick_t rfl rfl ?_ | refine op_pick_f rfl rfl ?_ | refine op_addi rfl rfl (by omega) (by omega) ?_ | refine op_subi rfl rfl (by omega) (by omega) ?_ | refine op_muli rfl rfl (by omega) (by omega) ?_ | refine op_add rfl rfl ?_ | refine op_sub rfl rfl ?_ | refine op_mul rfl rfl ?_ | refine op_fieldAddr tb rfl rfl ?_ | refine op_field1 tb rfl rfl rfl ?_ | refine op_and rfl rfl ?_ | refine op_or rfl rfl ?_ | refine op_xor rfl rfl ?_ | refine op_andNot rfl rfl ?_ | refine op_shl rfl rfl (by decide) ?_ | refine op_shr rfl rfl (by decide) ?_ | refine op_eqs rfl rfl ?_ | refine op_neqs rfl rfl ?_ | refine op_eqbd rfl rfl (by kernel_rfl) ?_ | refine op_neqbd rfl rfl (by kernel_rfl) ?_ | refine op_convert tb rfl rfl rfl ?_ | refine op_neg rfl ?_ | refine op_len tb rfl rfl rfl ?_ | (apply op_load1 tb rfl rfl; (· (first | (refine At.own (?_); repeat (first | exact Has.here | refine Has.there ?_)) | exact At.seen (by assumption))); (· exact rfl)) | (apply op_loadN tb rfl rfl; (· (first | (refine At.own (?_); repeat (first | exact Has.here | refine Has.there ?_)) | exact At.seen (by assumption))); (· exact rfl)) | (apply op_store1 tb rfl rfl rfl rfl rfl; (· (repeat (first | exact Upd.here | apply Upd.there))); (· exact rfl)) | (apply op_storeN tb rfl rfl rfl rfl rfl; (· (repeat (first | exact Upd.here | apply Upd.there))); (· exact rfl)) | (apply op_build tb (by kernel_rfl) rfl (rfl : tb.fo _ 0 = _); (· (repeat (first | exact Fill.nil | (apply Fill.cons; (· exact rfl); (· exact rfl); (· exact rfl); (· exact rfl); (· exact rfl)))))) | (refine op_boxN rfl ?_; intro b) | (refine op_box1 rfl rfl ?_; intro b) | (refine op_alloc tb rfl ?_; intro b) | (apply op_buildSlice tb; (· exact rfl); (· exact rfl); (· exact rfl); (· decide); (· (repeat (first | exact Cat.nil | (apply Cat.cons; (· exact rfl); (· exact rfl); (· exact rfl)) | exact App.nil | apply App.cons))); intro b))) | refine w_no rfl rfl rfl rfl ?_ | refine wc_cond_t rfl ?_ | refine wc_cond_f rfl ?_ | refine wc_if rfl (fun _ => ?_) (fun _ => ?_) | refine wc_ifn rfl (fun _ => ?_) (fun _ => ?_) | refine w_splitd rfl rfl (fun _ => ?_) (fun _ => ?_) | refine w_splitn rfl rfl (fun _ => ?_) (fun _ => ?_) | refine wc_ifnb rfl (fun _ => ?_) (fun _ => ?_) | refine wc_ifb rfl (fun _ => ?_) (fun _ => ?_) | refine w_splitnb rfl rfl (fun _ => ?_) (fun _ => ?_) | refine w_splitb rfl rfl (fun _ => ?_) (fun _ => ?_)))
  all_goals (refine pureV_ret hM hw hV0 hR (res1 rfl rfl) ?_)
  all_goals (simp only [sameP, sameDs_all, sameSs_all]; simp [*])
end Fly
