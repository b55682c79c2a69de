/-
  The law TreeSame answers true, by a walk.
-/
import Derived.Test.YtdmomplfmfhoiaaGreatDoorTrT
namespace Fly
open Go Go.Proofs
set_option maxRecDepth 10000
attribute [local irreducible] WC WE WR Opr St Go.Calls Fine Pure PureV Rel Fing FingD FinL Owe One Does Go.CallsD
attribute [local irreducible] Wn psum
theorem _root_.Fly.Prog.stepL {P : Program} {n : Nat} {X : Cx} {L : Lo} {V : View} {G : Own} {K : List KI} {l : List Oper} {m : Nat} {Ys : List YT} {r : Nat} {o : Oper} {A : List (Tmp × YT)} (y : YT) (hy : Mono y) (looks : List Tmp) (ho : l[Ys.length]? = some o) (hl : o.looksAt l.toArray = looks) (hA : selO looks l Ys = some A)
      (h : ∀ V' F, Sub V V' → Owe V' (One P n X V' (F ++ G) l o y) A L) (k : Prog P n X L V G K l m (Ys ++ [y]) r) : Prog P n X L V G K l m Ys (r + 1) := Prog.step y hy ho (by rw [hl]; exact hA) h k
set_option maxHeartbeats 0 in
theorem c4 {V : View} (hsg : SignsV V) {p q : Pg} {cp cq : List Value} (hp : Pg.Is V p cp) (hq : Pg.Is V q cq) : PureV Tryz.prog 4 [.agg cp.toArray, .agg cq.toArray] V (.bool true) := by
  have k6 := c6 hsg
  have k7 := c7 p 1500 hp
  have k7' := c7 q 1500 hq
  have k14 := c14 p hp
  have k15 := c15 p hp
  have k16 := c16 p q hp hq
  have k17 := c17 q p hq hp
  rw [sameP_symm q p] at k17
  have k17a := c17 p q hp hq
  have k17b := c17 p p hp hp
  rw [sameP_refl] at k17b
  obtain ⟨sd, cd, si, ci, ss, cS, rfl, g1, h1, g2, h2, g3, h3⟩ := hp
  obtain ⟨sd', cd', si', ci', ss', cS', rfl, g1', h1', g2', h2', g3', h3'⟩ := hq
  refine pureV_enter Tryz.func4 rfl Tryz.ntmps4 rfl ?_; intro X w hM hw hV0 hR; dsimp only [argL, Nat.zero_add, Nat.reduceAdd]
  (repeat' (first | refine wc_seq ?_ | refine wc_region ?_ | refine wr_nil ?_ | refine we_code ?_ | refine wc_block ?_ | refine wc_skip ?_ | refine we_blk ?_ | refine wc_exit ?_ | refine we_exit_code ?_ | refine we_exit_here ?_ | refine we_exit_on rfl ?_ | refine we_exit_lp ?_ | refine wc_ret ?_ | (refine w_cons rfl ?_; (first | (refine op_pureV tb rfl rfl k6 ?_) | (refine op_intR tb rfl rfl k7 ?_; intro z1) | (refine op_intR tb rfl rfl k7' ?_; intro z2) | (refine op_pureV tb rfl rfl k14 ?_) | (refine op_pureV tb rfl rfl k15 ?_) | (refine op_pureV tb rfl rfl k16 ?_) | (refine op_pureV tb rfl rfl k17 ?_) | refine op_move rfl ?_ | refine op_assign rfl ?_ | refine op_eql rfl rfl ?_ | refine op_neq rfl rfl ?_ | refine op_lss rfl rfl ?_ | refine op_leq rfl rfl ?_ | refine op_gtr rfl rfl ?_ | refine op_geq rfl rfl ?_ | refine op_extract rfl rfl ?_ | refine op_not rfl ?_ | refine op_pick_t rfl rfl ?_ | refine op_pick_f rfl rfl ?_ | refine op_addi rfl rfl (by omega) (by omega) ?_ | refine op_subi rfl rfl (by omega) (by omega) ?_ | refine op_muli rfl rfl (by omega) (by omega) ?_ | refine op_add rfl rfl ?_ | refine op_sub rfl rfl ?_ | refine op_mul rfl rfl ?_ | refine op_fieldAddr tb rfl rfl ?_ | refine op_field1 tb rfl rfl rfl ?_ | refine op_and rfl rfl ?_ | refine op_or rfl rfl ?_ | refine op_xor rfl rfl ?_ | refine op_andNot rfl rfl ?_ | refine op_shl rfl rfl (by decide) ?_ | refine op_shr rfl rfl (by decide) ?_ | refine op_eqs rfl rfl ?_ | refine op_neqs rfl rfl ?_ | refine op_eqbd rfl rfl (by kernel_rfl) ?_ | refine op_neqbd rfl rfl (by kernel_rfl) ?_ | refine op_convert tb rfl rfl rfl ?_ | refine op_neg rfl ?_ | refine op_len tb rfl rfl rfl ?_ | (apply op_load1 tb rfl rfl; (· (first | (refine At.own (?_); repeat (first | exact Has.here | refine Has.there ?_)) | exact At.seen (by assumption))); (· exact rfl)) | (apply op_loadN tb rfl rfl; (· (first | (refine At.own (?_); repeat (first | exact Has.here | refine Has.there ?_)) | exact At.seen (by assumption))); (· exact rfl)) | (apply op_store1 tb rfl rfl rfl rfl rfl; (· (repeat (first | exact Upd.here | apply Upd.there))); (· exact rfl)) | (apply op_storeN tb rfl rfl rfl rfl rfl; (· (repeat (first | exact Upd.here | apply Upd.there))); (· exact rfl)) | (apply op_build tb (by kernel_rfl) rfl (rfl : tb.fo _ 0 = _); (· (repeat (first | exact Fill.nil | (apply Fill.cons; (· exact rfl); (· exact rfl); (· exact rfl); (· exact rfl); (· exact rfl)))))) | (refine op_boxN rfl ?_; intro b) | (refine op_box1 rfl rfl ?_; intro b) | (refine op_alloc tb rfl ?_; intro b) | (apply op_buildSlice tb; (· exact rfl); (· exact rfl); (· exact rfl); (· decide); (· (repeat (first | exact Cat.nil | (apply Cat.cons; (· exact rfl); (· exact rfl); (· exact rfl)) | exact App.nil | apply App.cons))); intro b))) | (refine w_cons0 ?_; (first | (refine op_pureV tb rfl rfl k6 ?_) | (refine op_intR tb rfl rfl k7 ?_; intro z1) | (refine op_intR tb rfl rfl k7' ?_; intro z2) | (refine op_pureV tb rfl rfl k14 ?_) | (refine op_pureV tb rfl rfl k15 ?_) | (refine op_pureV tb rfl rfl k16 ?_) | (refine op_pureV tb rfl rfl k17 ?_) | refine op_move rfl ?_ | refine op_assign rfl ?_ | refine op_eql rfl rfl ?_ | refine op_neq rfl rfl ?_ | refine op_lss rfl rfl ?_ | refine op_leq rfl rfl ?_ | refine op_gtr rfl rfl ?_ | refine op_geq rfl rfl ?_ | refine op_extract rfl rfl ?_ | refine op_not rfl ?_ | refine op_pick_t rfl rfl ?_ | refine op_pick_f rfl rfl ?_ | refine op_addi rfl rfl (by omega) (by omega) ?_ | refine op_subi rfl rfl (by omega) (by omega) ?_ | refine op_muli rfl rfl (by omega) (by omega) ?_ | refine op_add rfl rfl ?_ | refine op_sub rfl rfl ?_ | refine op_mul rfl rfl ?_ | refine op_fieldAddr tb rfl rfl ?_ | refine op_field1 tb rfl rfl rfl ?_ | refine op_and rfl rfl ?_ | refine op_or rfl rfl ?_ | refine op_xor rfl rfl ?_ | refine op_andNot rfl rfl ?_ | refine op_shl rfl rfl (by decide) ?_ | refine op_shr rfl rfl (by decide) ?_ | refine op_eqs rfl rfl ?_ | refine op_neqs rfl rfl ?_ | refine op_eqbd rfl rfl (by kernel_rfl) ?_ | refine op_neqbd rfl rfl (by kernel_rfl) ?_ | refine op_convert tb rfl rfl rfl ?_ | refine op_neg rfl ?_ | refine op_len tb rfl rfl rfl ?_ | (apply op_load1 tb rfl rfl; (· (first | (refine At.own (?_); repeat (first | exact Has.here | refine Has.there ?_)) | exact At.seen (by assumption))); (· exact rfl)) | (apply op_loadN tb rfl rfl; (· (first | (refine At.own (?_); repeat (first | exact Has.here | refine Has.there ?_)) | exact At.seen (by assumption))); (· exact rfl)) | (apply op_store1 tb rfl rfl rfl rfl rfl; (· (repeat (first | exact Upd.here | apply Upd.there))); (· exact rfl)) | (apply op_storeN tb rfl rfl rfl rfl rfl; (· (repeat (first | exact Upd.here | apply Upd.there))); (· exact rfl)) | (apply op_build tb (by kernel_rfl) rfl (rfl : tb.fo _ 0 = _); (· (repeat (first | exact Fill.nil | (apply Fill.cons; (· exact rfl); (· exact rfl); (· exact rfl); (· exact rfl); (· exact rfl)))))) | (refine op_boxN rfl ?_; intro b) | (refine op_box1 rfl rfl ?_; intro b) | (refine op_alloc tb rfl ?_; intro b) | (apply op_buildSlice tb; (· exact rfl); (· exact rfl); (· exact rfl); (· decide); (· (repeat (first | exact Cat.nil | (apply Cat.cons; (· exact rfl); (· exact rfl); (· exact rfl)) | exact App.nil | apply App.cons))); intro b))) | (refine w_yes rfl rfl rfl ?_; (first | (refine op_pureV tb rfl rfl k6 ?_) | (refine op_intR tb rfl rfl k7 ?_; intro z1) | (refine op_intR tb rfl rfl k7' ?_; intro z2) | (refine op_pureV tb rfl rfl k14 ?_) | (refine op_pureV tb rfl rfl k15 ?_) | (refine op_pureV tb rfl rfl k16 ?_) | (refine op_pureV tb rfl rfl k17 ?_) | refine op_move rfl ?_ | refine op_assign rfl ?_ | refine op_eql rfl rfl ?_ | refine op_neq rfl rfl ?_ | refine op_lss rfl rfl ?_ | refine op_leq rfl rfl ?_ | refine op_gtr rfl rfl ?_ | refine op_geq rfl rfl ?_ | refine op_extract rfl rfl ?_ | refine op_not rfl ?_ | refine op_pick_t rfl rfl ?_ | refine op_pick_f rfl rfl ?_ | refine op_addi rfl rfl (by omega) (by omega) ?_ | refine op_subi rfl rfl (by omega) (by omega) ?_ | refine op_muli rfl rfl (by omega) (by omega) ?_ | refine op_add rfl rfl ?_ | refine op_sub rfl rfl ?_ | refine op_mul rfl rfl ?_ | refine op_fieldAddr tb rfl rfl ?_ | refine op_field1 tb rfl rfl rfl ?_ | refine op_and rfl rfl ?_ | refine op_or rfl rfl ?_ | refine op_xor rfl rfl ?_ | refine op_andNot rfl rfl ?_ | refine op_shl rfl rfl (by decide) ?_ | refine op_shr rfl rfl (by decide) ?_ | refine op_eqs rfl rfl ?_ | refine op_neqs rfl rfl ?_ | refine op_eqbd rfl rfl (by kernel_rfl) ?_ | refine op_neqbd rfl rfl (by kernel_rfl) ?_ | refine op_convert tb rfl rfl rfl ?_ | refine op_neg rfl ?_ | refine op_len tb rfl rfl rfl ?_ | (apply op_load1 tb rfl rfl; (· (first | (refine At.own (?_); repeat (first | exact Has.here | refine Has.there ?_)) | exact At.seen (by assumption))); (· exact rfl)) | (apply op_loadN tb rfl rfl; (· (first | (refine At.own (?_); repeat (first | exact Has.here | refine Has.there ?_)) | exact At.seen (by assumption))); (· exact rfl)) | (apply op_store1 tb rfl rfl rfl rfl rfl; (· (repeat (first | exact Upd.here | apply Upd.there))); (· exact rfl)) | (apply op_storeN tb rfl rfl rfl rfl rfl; (· (repeat (first | exact Upd.here | apply Upd.there))); (· exact rfl)) | (apply op_build tb (by kernel_rfl) rfl (rfl : tb.fo _ 0 = _); (· (repeat (first | exact Fill.nil | (apply Fill.cons; (· exact rfl); (· exact rfl); (· exact rfl); (· exact rfl); (· exact rfl)))))) | (refine op_boxN rfl ?_; intro b) | (refine op_box1 rfl rfl ?_; intro b) | (refine op_alloc tb rfl ?_; intro b) | (apply op_buildSlice tb; (· exact rfl); (· exact rfl); (· exact rfl); (· decide); (· (repeat (first | exact Cat.nil | (apply Cat.cons; (· exact rfl); (· exact rfl); (· exact rfl)) | exact App.nil | apply App.cons))); intro b))) | refine w_no rfl rfl rfl rfl ?_ | refine wc_cond_t rfl ?_ | refine wc_cond_f rfl ?_ | refine wc_if rfl (fun _ => ?_) (fun _ => ?_) | refine wc_ifn rfl (fun _ => ?_) (fun _ => ?_) | refine w_splitd rfl rfl (fun _ => ?_) (fun _ => ?_) | refine w_splitn rfl rfl (fun _ => ?_) (fun _ => ?_) | refine wc_ifnb rfl (fun _ => ?_) (fun _ => ?_) | refine wc_ifb rfl (fun _ => ?_) (fun _ => ?_) | refine w_splitnb rfl rfl (fun _ => ?_) (fun _ => ?_) | refine w_splitb rfl rfl (fun _ => ?_) (fun _ => ?_)))
  · (refine pureV_ret hM hw hV0 hR (res1 rfl rfl) ?_)
    rfl
  · (refine pureV_ret hM hw hV0 hR (res1 rfl rfl) ?_)
    rfl
  have hps := Sts.parts h3
  have hqs := Sts.parts h3'
  rename_i bp _ _
  refine wc_while (fun L' V' G' μ => ∃ i : Nat, i ≤ p.step.list.length ∧ μ = p.step.list.length - i ∧ Sub V V' ∧ G' = [(b, .cells [.int .i64 q.ticks, sd', si', ss'].toArray 25 (0, 0)), (bp, .cells [.int .i64 p.ticks, sd, si, ss].toArray 25 (0, 0))] ∧
    L' = [(12, .int .i64 i), (2, .pointer (some ⟨bp, 0, none⟩)), (3, .pointer (some ⟨b, 0, none⟩)), (5, .bool true), (6, .int .i64 (Wn (cntSs p.ini + cntSs p.step))), (7, .int .i64 (Wn (exSs p.ini + exSs p.step))), (8, .int .i64 (Wn (cntSs p.ini + cntSs p.step))), (9, .int .i64 (Wn (exSs p.ini + exSs p.step))), (10, .bool (sameP p q)), (11, .bool (sameP p q))]) (m0 := p.step.list.length) (by repeat (first | exact SubL.nil | refine SubL.cons rfl ?_)) (List.Sublist.refl _) ⟨0, by omega, by omega, Sub.refl _, rfl, rfl⟩ ?_
  rintro L' V' G' μ ⟨i, hi, hμ, hVs, hGe, hLe⟩
  subst hGe hLe
  (repeat' (first | refine wc_seq ?_ | refine wc_region ?_ | refine wr_nil ?_ | refine we_code ?_ | refine wc_block ?_ | refine wc_skip ?_ | refine we_blk ?_ | refine wc_exit ?_ | refine we_exit_code ?_ | refine we_exit_here ?_ | refine we_exit_on rfl ?_ | refine we_exit_lp ?_ | refine wc_ret ?_ | (refine w_cons rfl ?_; (first | (refine op_lenS tb rfl (g3.mono hVs) rfl rfl hps.1 (by decide) ?_) | (refine op_lenS tb rfl (g3'.mono hVs) rfl rfl hqs.1 (by decide) ?_) | (refine op_pureV tb rfl rfl (k17a.mono hVs) ?_) | (refine op_pureV tb rfl rfl (k17b.mono hVs) ?_) | refine op_move rfl ?_ | refine op_assign rfl ?_ | refine op_eql rfl rfl ?_ | refine op_neq rfl rfl ?_ | refine op_lss rfl rfl ?_ | refine op_leq rfl rfl ?_ | refine op_gtr rfl rfl ?_ | refine op_geq rfl rfl ?_ | refine op_extract rfl rfl ?_ | refine op_not rfl ?_ | refine op_pick_t rfl rfl ?_ | refine op_pick_f rfl rfl ?_ | refine op_addi rfl rfl (by omega) (by omega) ?_ | refine op_subi rfl rfl (by omega) (by omega) ?_ | refine op_muli rfl rfl (by omega) (by omega) ?_ | refine op_add rfl rfl ?_ | refine op_sub rfl rfl ?_ | refine op_mul rfl rfl ?_ | refine op_fieldAddr tb rfl rfl ?_ | refine op_field1 tb rfl rfl rfl ?_ | refine op_and rfl rfl ?_ | refine op_or rfl rfl ?_ | refine op_xor rfl rfl ?_ | refine op_andNot rfl rfl ?_ | refine op_shl rfl rfl (by decide) ?_ | refine op_shr rfl rfl (by decide) ?_ | refine op_eqs rfl rfl ?_ | refine op_neqs rfl rfl ?_ | refine op_eqbd rfl rfl (by kernel_rfl) ?_ | refine op_neqbd rfl rfl (by kernel_rfl) ?_ | refine op_convert tb rfl rfl rfl ?_ | refine op_neg rfl ?_ | refine op_len tb rfl rfl rfl ?_ | (apply op_load1 tb rfl rfl; (· (first | (refine At.own (?_); repeat (first | exact Has.here | refine Has.there ?_)) | exact At.seen (by assumption))); (· exact rfl)) | (apply op_loadN tb rfl rfl; (· (first | (refine At.own (?_); repeat (first | exact Has.here | refine Has.there ?_)) | exact At.seen (by assumption))); (· exact rfl)) | (apply op_store1 tb rfl rfl rfl rfl rfl; (· (repeat (first | exact Upd.here | apply Upd.there))); (· exact rfl)) | (apply op_storeN tb rfl rfl rfl rfl rfl; (· (repeat (first | exact Upd.here | apply Upd.there))); (· exact rfl)) | (apply op_build tb (by kernel_rfl) rfl (rfl : tb.fo _ 0 = _); (· (repeat (first | exact Fill.nil | (apply Fill.cons; (· exact rfl); (· exact rfl); (· exact rfl); (· exact rfl); (· exact rfl)))))) | (refine op_boxN rfl ?_; intro b) | (refine op_box1 rfl rfl ?_; intro b) | (refine op_alloc tb rfl ?_; intro b) | (apply op_buildSlice tb; (· exact rfl); (· exact rfl); (· exact rfl); (· decide); (· (repeat (first | exact Cat.nil | (apply Cat.cons; (· exact rfl); (· exact rfl); (· exact rfl)) | exact App.nil | apply App.cons))); intro b))) | (refine w_cons0 ?_; (first | (refine op_lenS tb rfl (g3.mono hVs) rfl rfl hps.1 (by decide) ?_) | (refine op_lenS tb rfl (g3'.mono hVs) rfl rfl hqs.1 (by decide) ?_) | (refine op_pureV tb rfl rfl (k17a.mono hVs) ?_) | (refine op_pureV tb rfl rfl (k17b.mono hVs) ?_) | refine op_move rfl ?_ | refine op_assign rfl ?_ | refine op_eql rfl rfl ?_ | refine op_neq rfl rfl ?_ | refine op_lss rfl rfl ?_ | refine op_leq rfl rfl ?_ | refine op_gtr rfl rfl ?_ | refine op_geq rfl rfl ?_ | refine op_extract rfl rfl ?_ | refine op_not rfl ?_ | refine op_pick_t rfl rfl ?_ | refine op_pick_f rfl rfl ?_ | refine op_addi rfl rfl (by omega) (by omega) ?_ | refine op_subi rfl rfl (by omega) (by omega) ?_ | refine op_muli rfl rfl (by omega) (by omega) ?_ | refine op_add rfl rfl ?_ | refine op_sub rfl rfl ?_ | refine op_mul rfl rfl ?_ | refine op_fieldAddr tb rfl rfl ?_ | refine op_field1 tb rfl rfl rfl ?_ | refine op_and rfl rfl ?_ | refine op_or rfl rfl ?_ | refine op_xor rfl rfl ?_ | refine op_andNot rfl rfl ?_ | refine op_shl rfl rfl (by decide) ?_ | refine op_shr rfl rfl (by decide) ?_ | refine op_eqs rfl rfl ?_ | refine op_neqs rfl rfl ?_ | refine op_eqbd rfl rfl (by kernel_rfl) ?_ | refine op_neqbd rfl rfl (by kernel_rfl) ?_ | refine op_convert tb rfl rfl rfl ?_ | refine op_neg rfl ?_ | refine op_len tb rfl rfl rfl ?_ | (apply op_load1 tb rfl rfl; (· (first | (refine At.own (?_); repeat (first | exact Has.here | refine Has.there ?_)) | exact At.seen (by assumption))); (· exact rfl)) | (apply op_loadN tb rfl rfl; (· (first | (refine At.own (?_); repeat (first | exact Has.here | refine Has.there ?_)) | exact At.seen (by assumption))); (· exact rfl)) | (apply op_store1 tb rfl rfl rfl rfl rfl; (· (repeat (first | exact Upd.here | apply Upd.there))); (· exact rfl)) | (apply op_storeN tb rfl rfl rfl rfl rfl; (· (repeat (first | exact Upd.here | apply Upd.there))); (· exact rfl)) | (apply op_build tb (by kernel_rfl) rfl (rfl : tb.fo _ 0 = _); (· (repeat (first | exact Fill.nil | (apply Fill.cons; (· exact rfl); (· exact rfl); (· exact rfl); (· exact rfl); (· exact rfl)))))) | (refine op_boxN rfl ?_; intro b) | (refine op_box1 rfl rfl ?_; intro b) | (refine op_alloc tb rfl ?_; intro b) | (apply op_buildSlice tb; (· exact rfl); (· exact rfl); (· exact rfl); (· decide); (· (repeat (first | exact Cat.nil | (apply Cat.cons; (· exact rfl); (· exact rfl); (· exact rfl)) | exact App.nil | apply App.cons))); intro b))) | (refine w_yes rfl rfl rfl ?_; (first | (refine op_lenS tb rfl (g3.mono hVs) rfl rfl hps.1 (by decide) ?_) | (refine op_lenS tb rfl (g3'.mono hVs) rfl rfl hqs.1 (by decide) ?_) | (refine op_pureV tb rfl rfl (k17a.mono hVs) ?_) | (refine op_pureV tb rfl rfl (k17b.mono hVs) ?_) | refine op_move rfl ?_ | refine op_assign rfl ?_ | refine op_eql rfl rfl ?_ | refine op_neq rfl rfl ?_ | refine op_lss rfl rfl ?_ | refine op_leq rfl rfl ?_ | refine op_gtr rfl rfl ?_ | refine op_geq rfl rfl ?_ | refine op_extract rfl rfl ?_ | refine op_not rfl ?_ | refine op_pick_t rfl rfl ?_ | refine op_pick_f rfl rfl ?_ | refine op_addi rfl rfl (by omega) (by omega) ?_ | refine op_subi rfl rfl (by omega) (by omega) ?_ | refine op_muli rfl rfl (by omega) (by omega) ?_ | refine op_add rfl rfl ?_ | refine op_sub rfl rfl ?_ | refine op_mul rfl rfl ?_ | refine op_fieldAddr tb rfl rfl ?_ | refine op_field1 tb rfl rfl rfl ?_ | refine op_and rfl rfl ?_ | refine op_or rfl rfl ?_ | refine op_xor rfl rfl ?_ | refine op_andNot rfl rfl ?_ | refine op_shl rfl rfl (by decide) ?_ | refine op_shr rfl rfl (by decide) ?_ | refine op_eqs rfl rfl ?_ | refine op_neqs rfl rfl ?_ | refine op_eqbd rfl rfl (by kernel_rfl) ?_ | refine op_neqbd rfl rfl (by kernel_rfl) ?_ | refine op_convert tb rfl rfl rfl ?_ | refine op_neg rfl ?_ | refine op_len tb rfl rfl rfl ?_ | (apply op_load1 tb rfl rfl; (· (first | (refine At.own (?_); repeat (first | exact Has.here | refine Has.there ?_)) | exact At.seen (by assumption))); (· exact rfl)) | (apply op_loadN tb rfl rfl; (· (first | (refine At.own (?_); repeat (first | exact Has.here | refine Has.there ?_)) | exact At.seen (by assumption))); (· exact rfl)) | (apply op_store1 tb rfl rfl rfl rfl rfl; (· (repeat (first | exact Upd.here | apply Upd.there))); (· exact rfl)) | (apply op_storeN tb rfl rfl rfl rfl rfl; (· (repeat (first | exact Upd.here | apply Upd.there))); (· exact rfl)) | (apply op_build tb (by kernel_rfl) rfl (rfl : tb.fo _ 0 = _); (· (repeat (first | exact Fill.nil | (apply Fill.cons; (· exact rfl); (· exact rfl); (· exact rfl); (· exact rfl); (· exact rfl)))))) | (refine op_boxN rfl ?_; intro b) | (refine op_box1 rfl rfl ?_; intro b) | (refine op_alloc tb rfl ?_; intro b) | (apply op_buildSlice tb; (· exact rfl); (· exact rfl); (· exact rfl); (· decide); (· (repeat (first | exact Cat.nil | (apply Cat.cons; (· exact rfl); (· exact rfl); (· exact rfl)) | exact App.nil | apply App.cons))); intro b))) | refine w_no rfl rfl rfl rfl ?_ | refine wc_cond_t rfl ?_ | refine wc_cond_f rfl ?_ | refine wc_if rfl (fun _ => ?_) (fun _ => ?_) | refine wc_ifn rfl (fun _ => ?_) (fun _ => ?_) | refine w_splitd rfl rfl (fun _ => ?_) (fun _ => ?_) | refine w_splitn rfl rfl (fun _ => ?_) (fun _ => ?_) | refine wc_ifnb rfl (fun _ => ?_) (fun _ => ?_) | refine wc_ifb rfl (fun _ => ?_) (fun _ => ?_) | refine w_splitnb rfl rfl (fun _ => ?_) (fun _ => ?_) | refine w_splitb rfl rfl (fun _ => ?_) (fun _ => ?_)))
  rotate_left
  all_goals try first
    | ((refine pureV_ret hM hw hV0 hR (res1 rfl rfl) ?_); first | rfl | contradiction)
  · have hlp : i < p.step.list.length := by omega
    have hlq : i < q.step.list.length := by omega
    obtain ⟨ax, lx, qx, rfl, hz1, hz2, hlx, hpx⟩ := g3.mono hVs
    obtain ⟨ay, ly, qy, rfl, _, _, hly, hpy⟩ := g3'.mono hVs
    have hps' := Sts.parts (Sts.Is.mono hVs _ h3)
    have hqs' := Sts.parts (Sts.Is.mono hVs _ h3')
    have hxl := hps'.1
    have hyl := hqs'.1
    have hbig : lx ≤ 9223372036854775807 := by unfold maxLen at hz2; omega
    obtain ⟨b1, o1, rfl, hrx⟩ := hpx.resolve_left (by omega)
    obtain ⟨b2, o2, rfl, hry⟩ := hpy.resolve_left (by omega)
    obtain ⟨c, hcl, ⟨x, hx1, hx2⟩, hc1⟩ := hps'.rd hrx (i := i) hlp
    obtain ⟨c', hcl', ⟨y, hy1, hy2⟩, hc2⟩ := hqs'.rd hry (i := i) hlq
    obtain ⟨_, _, _, _, ex, _, _, _, _⟩ := x
    obtain ⟨_, _, _, _, ey, _, _, _, _⟩ := y
    simp only [St_.Is] at hx2 hy2
    obtain ⟨_, _, cE1, _, _, _, _, rfl, _, _, he1, _⟩ := hx2
    obtain ⟨_, _, cE2, _, _, _, _, rfl, _, _, he2, _⟩ := hy2
    have k18 := c18 _ _ he1 he2
    have k19 := c19 _ _ he1 he2
    have r41 : ∀ j v, cE1[j]? = some v → rd V' b1 (o1 + i * 15 + 4 + j) v := fun j v hj => by
      have hj7 : j < 7 := by have := (List.getElem?_eq_some_iff.1 hj).1; rw [he1.len] at this; exact this
      rw [Nat.add_assoc]
      refine hc1 (4 + j) v ?_
      rw [List.append_assoc, List.getElem?_append_right (by simp), List.getElem?_append_left (by rw [he1.len]; simp; omega)]
      simpa using hj
    have r42 : ∀ j v, cE2[j]? = some v → rd V' b2 (o2 + i * 15 + 4 + j) v := fun j v hj => by
      have hj7 : j < 7 := by have := (List.getElem?_eq_some_iff.1 hj).1; rw [he2.len] at this; exact this
      rw [Nat.add_assoc]
      refine hc2 (4 + j) v ?_
      rw [List.append_assoc, List.getElem?_append_right (by simp), List.getElem?_append_left (by rw [he2.len]; simp; omega)]
      simpa using hj
    have l1 := he1.len
    have l2 := he2.len
    refine wc_draws (ms := [0, 1, 0, 7, 15, 31, 0, 64, 0, 448, 960, 1984, 4095, 0, 8192, 0, 57344, 122880, 253952, 0, 524288, 0, 3670016, 7864320, 16252928, 33554431, 67108863]) 25 mo (by kernel_rfl) (by kernel_rfl) rfl ?_
    apply Prog.stepL (fixY _) (fixY_mono _) [2] rfl (by kernel_rfl) rfl
    · intro V1 F1 hs1
      repeat (first | refine owe_fix ?_ | refine owe_nil ?_)
      refine one_plain ?_
      refine op_fieldAddr tb rfl rfl ?_
      exact y_fix
    simp only [List.nil_append, List.cons_append]
    apply Prog.stepL (fixY _) (fixY_mono _) [55] rfl (by kernel_rfl) rfl
    · intro V1 F1 hs1
      repeat (first | refine owe_fix ?_ | refine owe_nil ?_)
      refine one_plain ?_
      apply op_load1 tb rfl rfl
      · refine At.own (Has.app ?_)
        repeat (first | exact Has.here | refine Has.there ?_)
      · exact rfl
      exact y_fix
    simp only [List.nil_append, List.cons_append]
    apply Prog.stepL (fixY _) (fixY_mono _) [12] rfl (by kernel_rfl) rfl
    · intro V1 F1 hs1
      repeat (first | refine owe_fix ?_ | refine owe_nil ?_)
      refine one_plain ?_
      refine op_move rfl ?_
      exact y_fix
    simp only [List.nil_append, List.cons_append]
    apply Prog.stepL (fixY _) (fixY_mono _) [56, 57] rfl (by kernel_rfl) rfl
    · intro V1 F1 hs1
      repeat (first | refine owe_fix ?_ | refine owe_nil ?_)
      refine one_plain ?_
      refine op_indexAddr tb rfl rfl rfl (by omega) (by omega) ?_
      exact y_fix
    simp only [List.nil_append, List.cons_append]
    apply Prog.stepL (fixY _) (fixY_mono _) [58] rfl (by kernel_rfl) rfl
    · intro V1 F1 hs1
      repeat (first | refine owe_fix ?_ | refine owe_nil ?_)
      refine one_plain ?_
      refine op_fieldAddr tb rfl rfl ?_
      exact y_fix
    simp only [List.nil_append, List.cons_append]
    apply Prog.stepL (fixY _) (fixY_mono _) [59] rfl (by kernel_rfl) rfl
    · intro V1 F1 hs1
      repeat (first | refine owe_fix ?_ | refine owe_nil ?_)
      refine one_plain ?_
      first | (refine op_loadRN' tb rfl rfl l1 (by decide) r41 (by assumption) ?_) | (refine op_loadRN' tb rfl rfl l2 (by decide) r42 (by assumption) ?_)
      exact y_fix
    simp only [List.nil_append, List.cons_append]
    apply Prog.stepL (fixY _) (fixY_mono _) [3] rfl (by kernel_rfl) rfl
    · intro V1 F1 hs1
      repeat (first | refine owe_fix ?_ | refine owe_nil ?_)
      refine one_plain ?_
      refine op_fieldAddr tb rfl rfl ?_
      exact y_fix
    simp only [List.nil_append, List.cons_append]
    apply Prog.stepL (fixY _) (fixY_mono _) [61] rfl (by kernel_rfl) rfl
    · intro V1 F1 hs1
      repeat (first | refine owe_fix ?_ | refine owe_nil ?_)
      refine one_plain ?_
      apply op_load1 tb rfl rfl
      · refine At.own (Has.app ?_)
        repeat (first | exact Has.here | refine Has.there ?_)
      · exact rfl
      exact y_fix
    simp only [List.nil_append, List.cons_append]
    apply Prog.stepL (fixY _) (fixY_mono _) [12] rfl (by kernel_rfl) rfl
    · intro V1 F1 hs1
      repeat (first | refine owe_fix ?_ | refine owe_nil ?_)
      refine one_plain ?_
      refine op_move rfl ?_
      exact y_fix
    simp only [List.nil_append, List.cons_append]
    apply Prog.stepL (fixY _) (fixY_mono _) [62, 63] rfl (by kernel_rfl) rfl
    · intro V1 F1 hs1
      repeat (first | refine owe_fix ?_ | refine owe_nil ?_)
      refine one_plain ?_
      refine op_indexAddr tb rfl rfl rfl (by omega) (by omega) ?_
      exact y_fix
    simp only [List.nil_append, List.cons_append]
    apply Prog.stepL (fixY _) (fixY_mono _) [64] rfl (by kernel_rfl) rfl
    · intro V1 F1 hs1
      repeat (first | refine owe_fix ?_ | refine owe_nil ?_)
      refine one_plain ?_
      refine op_fieldAddr tb rfl rfl ?_
      exact y_fix
    simp only [List.nil_append, List.cons_append]
    apply Prog.stepL (fixY _) (fixY_mono _) [65] rfl (by kernel_rfl) rfl
    · intro V1 F1 hs1
      repeat (first | refine owe_fix ?_ | refine owe_nil ?_)
      refine one_plain ?_
      first | (refine op_loadRN' tb rfl rfl l1 (by decide) r41 (by assumption) ?_) | (refine op_loadRN' tb rfl rfl l2 (by decide) r42 (by assumption) ?_)
      exact y_fix
    simp only [List.nil_append, List.cons_append]
    apply Prog.stepL (fixY _) (fixY_mono _) [60, 66] rfl (by kernel_rfl) rfl
    · intro V1 F1 hs1
      repeat (first | refine owe_fix ?_ | refine owe_nil ?_)
      refine one_plain ?_
      refine op_pureV tb rfl rfl (k18.mono (by assumption)) ?_
      exact y_fix
    simp only [List.nil_append, List.cons_append]
    apply Prog.stepL (fixY _) (fixY_mono _) [2] rfl (by kernel_rfl) rfl
    · intro V1 F1 hs1
      repeat (first | refine owe_fix ?_ | refine owe_nil ?_)
      refine one_plain ?_
      refine op_fieldAddr tb rfl rfl ?_
      exact y_fix
    simp only [List.nil_append, List.cons_append]
    apply Prog.stepL (fixY _) (fixY_mono _) [68] rfl (by kernel_rfl) rfl
    · intro V1 F1 hs1
      repeat (first | refine owe_fix ?_ | refine owe_nil ?_)
      refine one_plain ?_
      apply op_load1 tb rfl rfl
      · refine At.own (Has.app ?_)
        repeat (first | exact Has.here | refine Has.there ?_)
      · exact rfl
      exact y_fix
    simp only [List.nil_append, List.cons_append]
    apply Prog.stepL (fixY _) (fixY_mono _) [12] rfl (by kernel_rfl) rfl
    · intro V1 F1 hs1
      repeat (first | refine owe_fix ?_ | refine owe_nil ?_)
      refine one_plain ?_
      refine op_move rfl ?_
      exact y_fix
    simp only [List.nil_append, List.cons_append]
    apply Prog.stepL (fixY _) (fixY_mono _) [69, 70] rfl (by kernel_rfl) rfl
    · intro V1 F1 hs1
      repeat (first | refine owe_fix ?_ | refine owe_nil ?_)
      refine one_plain ?_
      refine op_indexAddr tb rfl rfl rfl (by omega) (by omega) ?_
      exact y_fix
    simp only [List.nil_append, List.cons_append]
    apply Prog.stepL (fixY _) (fixY_mono _) [71] rfl (by kernel_rfl) rfl
    · intro V1 F1 hs1
      repeat (first | refine owe_fix ?_ | refine owe_nil ?_)
      refine one_plain ?_
      refine op_fieldAddr tb rfl rfl ?_
      exact y_fix
    simp only [List.nil_append, List.cons_append]
    apply Prog.stepL (fixY _) (fixY_mono _) [72] rfl (by kernel_rfl) rfl
    · intro V1 F1 hs1
      repeat (first | refine owe_fix ?_ | refine owe_nil ?_)
      refine one_plain ?_
      first | (refine op_loadRN' tb rfl rfl l1 (by decide) r41 (by assumption) ?_) | (refine op_loadRN' tb rfl rfl l2 (by decide) r42 (by assumption) ?_)
      exact y_fix
    simp only [List.nil_append, List.cons_append]
    apply Prog.stepL (fixY _) (fixY_mono _) [3] rfl (by kernel_rfl) rfl
    · intro V1 F1 hs1
      repeat (first | refine owe_fix ?_ | refine owe_nil ?_)
      refine one_plain ?_
      refine op_fieldAddr tb rfl rfl ?_
      exact y_fix
    simp only [List.nil_append, List.cons_append]
    apply Prog.stepL (fixY _) (fixY_mono _) [74] rfl (by kernel_rfl) rfl
    · intro V1 F1 hs1
      repeat (first | refine owe_fix ?_ | refine owe_nil ?_)
      refine one_plain ?_
      apply op_load1 tb rfl rfl
      · refine At.own (Has.app ?_)
        repeat (first | exact Has.here | refine Has.there ?_)
      · exact rfl
      exact y_fix
    simp only [List.nil_append, List.cons_append]
    apply Prog.stepL (fixY _) (fixY_mono _) [12] rfl (by kernel_rfl) rfl
    · intro V1 F1 hs1
      repeat (first | refine owe_fix ?_ | refine owe_nil ?_)
      refine one_plain ?_
      refine op_move rfl ?_
      exact y_fix
    simp only [List.nil_append, List.cons_append]
    apply Prog.stepL (fixY _) (fixY_mono _) [75, 76] rfl (by kernel_rfl) rfl
    · intro V1 F1 hs1
      repeat (first | refine owe_fix ?_ | refine owe_nil ?_)
      refine one_plain ?_
      refine op_indexAddr tb rfl rfl rfl (by omega) (by omega) ?_
      exact y_fix
    simp only [List.nil_append, List.cons_append]
    apply Prog.stepL (fixY _) (fixY_mono _) [77] rfl (by kernel_rfl) rfl
    · intro V1 F1 hs1
      repeat (first | refine owe_fix ?_ | refine owe_nil ?_)
      refine one_plain ?_
      refine op_fieldAddr tb rfl rfl ?_
      exact y_fix
    simp only [List.nil_append, List.cons_append]
    apply Prog.stepL (fixY _) (fixY_mono _) [78] rfl (by kernel_rfl) rfl
    · intro V1 F1 hs1
      repeat (first | refine owe_fix ?_ | refine owe_nil ?_)
      refine one_plain ?_
      first | (refine op_loadRN' tb rfl rfl l1 (by decide) r41 (by assumption) ?_) | (refine op_loadRN' tb rfl rfl l2 (by decide) r42 (by assumption) ?_)
      exact y_fix
    simp only [List.nil_append, List.cons_append]
    refine Prog.done ?_; intro V1 hs1; repeat (first | refine finl_fix ?_ | refine finl_end ?_ | refine finl_end1 ?_)
    (repeat' (first | refine wc_seq ?_ | refine wc_region ?_ | refine wr_nil ?_ | refine we_code ?_ | refine wc_block ?_ | refine wc_skip ?_ | refine we_blk ?_ | refine wc_exit ?_ | refine we_exit_code ?_ | refine we_exit_here ?_ | refine we_exit_on rfl ?_ | refine we_exit_lp ?_ | refine wc_ret ?_ | (refine w_cons rfl ?_; (first | (refine op_pureV tb rfl rfl (k19.mono hs1) ?_) | refine op_move rfl ?_ | refine op_assign rfl ?_ | refine op_eql rfl rfl ?_ | refine op_neq rfl rfl ?_ | refine op_lss rfl rfl ?_ | refine op_leq rfl rfl ?_ | refine op_gtr rfl rfl ?_ | refine op_geq rfl rfl ?_ | refine op_extract rfl rfl ?_ | refine op_not rfl ?_ | refine op_pick_t rfl rfl ?_ | refine op_pick_f rfl rfl ?_ | refine op_addi rfl rfl (by omega) (by omega) ?_ | refine op_subi rfl rfl (by omega) (by omega) ?_ | refine op_muli rfl rfl (by omega) (by omega) ?_ | refine op_add rfl rfl ?_ | refine op_sub rfl rfl ?_ | refine op_mul rfl rfl ?_ | refine op_fieldAddr tb rfl rfl ?_ | refine op_field1 tb rfl rfl rfl ?_ | refine op_and rfl rfl ?_ | refine op_or rfl rfl ?_ | refine op_xor rfl rfl ?_ | refine op_andNot rfl rfl ?_ | refine op_shl rfl rfl (by decide) ?_ | refine op_shr rfl rfl (by decide) ?_ | refine op_eqs rfl rfl ?_ | refine op_neqs rfl rfl ?_ | refine op_eqbd rfl rfl (by kernel_rfl) ?_ | refine op_neqbd rfl rfl (by kernel_rfl) ?_ | refine op_convert tb rfl rfl rfl ?_ | refine op_neg rfl ?_ | refine op_len tb rfl rfl rfl ?_ | (apply op_load1 tb rfl rfl; (· (first | (refine At.own (?_); repeat (first | exact Has.here | refine Has.there ?_)) | exact At.seen (by assumption))); (· exact rfl)) | (apply op_loadN tb rfl rfl; (· (first | (refine At.own (?_); repeat (first | exact Has.here | refine Has.there ?_)) | exact At.seen (by assumption))); (· exact rfl)) | (apply op_store1 tb rfl rfl rfl rfl rfl; (· (repeat (first | exact Upd.here | apply Upd.there))); (· exact rfl)) | (apply op_storeN tb rfl rfl rfl rfl rfl; (· (repeat (first | exact Upd.here | apply Upd.there))); (· exact rfl)) | (apply op_build tb (by kernel_rfl) rfl (rfl : tb.fo _ 0 = _); (· (repeat (first | exact Fill.nil | (apply Fill.cons; (· exact rfl); (· exact rfl); (· exact rfl); (· exact rfl); (· exact rfl)))))) | (refine op_boxN rfl ?_; intro b) | (refine op_box1 rfl rfl ?_; intro b) | (refine op_alloc tb rfl ?_; intro b) | (apply op_buildSlice tb; (· exact rfl); (· exact rfl); (· exact rfl); (· decide); (· (repeat (first | exact Cat.nil | (apply Cat.cons; (· exact rfl); (· exact rfl); (· exact rfl)) | exact App.nil | apply App.cons))); intro b))) | (refine w_cons0 ?_; (first | (refine op_pureV tb rfl rfl (k19.mono hs1) ?_) | refine op_move rfl ?_ | refine op_assign rfl ?_ | refine op_eql rfl rfl ?_ | refine op_neq rfl rfl ?_ | refine op_lss rfl rfl ?_ | refine op_leq rfl rfl ?_ | refine op_gtr rfl rfl ?_ | refine op_geq rfl rfl ?_ | refine op_extract rfl rfl ?_ | refine op_not rfl ?_ | refine op_pick_t rfl rfl ?_ | refine op_pick_f rfl rfl ?_ | refine op_addi rfl rfl (by omega) (by omega) ?_ | refine op_subi rfl rfl (by omega) (by omega) ?_ | refine op_muli rfl rfl (by omega) (by omega) ?_ | refine op_add rfl rfl ?_ | refine op_sub rfl rfl ?_ | refine op_mul rfl rfl ?_ | refine op_fieldAddr tb rfl rfl ?_ | refine op_field1 tb rfl rfl rfl ?_ | refine op_and rfl rfl ?_ | refine op_or rfl rfl ?_ | refine op_xor rfl rfl ?_ | refine op_andNot rfl rfl ?_ | refine op_shl rfl rfl (by decide) ?_ | refine op_shr rfl rfl (by decide) ?_ | refine op_eqs rfl rfl ?_ | refine op_neqs rfl rfl ?_ | refine op_eqbd rfl rfl (by kernel_rfl) ?_ | refine op_neqbd rfl rfl (by kernel_rfl) ?_ | refine op_convert tb rfl rfl rfl ?_ | refine op_neg rfl ?_ | refine op_len tb rfl rfl rfl ?_ | (apply op_load1 tb rfl rfl; (· (first | (refine At.own (?_); repeat (first | exact Has.here | refine Has.there ?_)) | exact At.seen (by assumption))); (· exact rfl)) | (apply op_loadN tb rfl rfl; (· (first | (refine At.own (?_); repeat (first | exact Has.here | refine Has.there ?_)) | exact At.seen (by assumption))); (· exact rfl)) | (apply op_store1 tb rfl rfl rfl rfl rfl; (· (repeat (first | exact Upd.here | apply Upd.there))); (· exact rfl)) | (apply op_storeN tb rfl rfl rfl rfl rfl; (· (repeat (first | exact Upd.here | apply Upd.there))); (· exact rfl)) | (apply op_build tb (by kernel_rfl) rfl (rfl : tb.fo _ 0 = _); (· (repeat (first | exact Fill.nil | (apply Fill.cons; (· exact rfl); (· exact rfl); (· exact rfl); (· exact rfl); (· exact rfl)))))) | (refine op_boxN rfl ?_; intro b) | (refine op_box1 rfl rfl ?_; intro b) | (refine op_alloc tb rfl ?_; intro b) | (apply op_buildSlice tb; (· exact rfl); (· exact rfl); (· exact rfl); (· decide); (· (repeat (first | exact Cat.nil | (apply Cat.cons; (· exact rfl); (· exact rfl); (· exact rfl)) | exact App.nil | apply App.cons))); intro b))) | (refine w_yes rfl rfl rfl ?_; (first | (refine op_pureV tb rfl rfl (k19.mono hs1) ?_) | refine op_move rfl ?_ | refine op_assign rfl ?_ | refine op_eql rfl rfl ?_ | refine op_neq rfl rfl ?_ | refine op_lss rfl rfl ?_ | refine op_leq rfl rfl ?_ | refine op_gtr rfl rfl ?_ | refine op_geq rfl rfl ?_ | refine op_extract rfl rfl ?_ | refine op_not rfl ?_ | refine op_pick_t rfl rfl ?_ | refine op_pick_f rfl rfl ?_ | refine op_addi rfl rfl (by omega) (by omega) ?_ | refine op_subi rfl rfl (by omega) (by omega) ?_ | refine op_muli rfl rfl (by omega) (by omega) ?_ | refine op_add rfl rfl ?_ | refine op_sub rfl rfl ?_ | refine op_mul rfl rfl ?_ | refine op_fieldAddr tb rfl rfl ?_ | refine op_field1 tb rfl rfl rfl ?_ | refine op_and rfl rfl ?_ | refine op_or rfl rfl ?_ | refine op_xor rfl rfl ?_ | refine op_andNot rfl rfl ?_ | refine op_shl rfl rfl (by decide) ?_ | refine op_shr rfl rfl (by decide) ?_ | refine op_eqs rfl rfl ?_ | refine op_neqs rfl rfl ?_ | refine op_eqbd rfl rfl (by kernel_rfl) ?_ | refine op_neqbd rfl rfl (by kernel_rfl) ?_ | refine op_convert tb rfl rfl rfl ?_ | refine op_neg rfl ?_ | refine op_len tb rfl rfl rfl ?_ | (apply op_load1 tb rfl rfl; (· (first | (refine At.own (?_); repeat (first | exact Has.here | refine Has.there ?_)) | exact At.seen (by assumption))); (· exact rfl)) | (apply op_loadN tb rfl rfl; (· (first | (refine At.own (?_); repeat (first | exact Has.here | refine Has.there ?_)) | exact At.seen (by assumption))); (· exact rfl)) | (apply op_store1 tb rfl rfl rfl rfl rfl; (· (repeat (first | exact Upd.here | apply Upd.there))); (· exact rfl)) | (apply op_storeN tb rfl rfl rfl rfl rfl; (· (repeat (first | exact Upd.here | apply Upd.there))); (· exact rfl)) | (apply op_build tb (by kernel_rfl) rfl (rfl : tb.fo _ 0 = _); (· (repeat (first | exact Fill.nil | (apply Fill.cons; (· exact rfl); (· exact rfl); (· exact rfl); (· exact rfl); (· exact rfl)))))) | (refine op_boxN rfl ?_; intro b) | (refine op_box1 rfl rfl ?_; intro b) | (refine op_alloc tb rfl ?_; intro b) | (apply op_buildSlice tb; (· exact rfl); (· exact rfl); (· exact rfl); (· decide); (· (repeat (first | exact Cat.nil | (apply Cat.cons; (· exact rfl); (· exact rfl); (· exact rfl)) | exact App.nil | apply App.cons))); intro b))) | refine w_no rfl rfl rfl rfl ?_ | refine wc_cond_t rfl ?_ | refine wc_cond_f rfl ?_ | refine wc_if rfl (fun _ => ?_) (fun _ => ?_) | refine wc_ifn rfl (fun _ => ?_) (fun _ => ?_) | refine w_splitd rfl rfl (fun _ => ?_) (fun _ => ?_) | refine w_splitn rfl rfl (fun _ => ?_) (fun _ => ?_) | refine wc_ifnb rfl (fun _ => ?_) (fun _ => ?_) | refine wc_ifb rfl (fun _ => ?_) (fun _ => ?_) | refine w_splitnb rfl rfl (fun _ => ?_) (fun _ => ?_) | refine w_splitb rfl rfl (fun _ => ?_) (fun _ => ?_)))
    · exfalso; rename_i h; exact h rfl
    · exact we_round (by repeat (first | exact SubL.nil | refine SubL.cons rfl ?_)) (List.Sublist.refl _) ⟨i + 1, by omega, rfl, hVs.trans hs1, rfl, rfl⟩ (by omega)
end Fly
