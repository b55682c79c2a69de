/-
  The law and its row.
-/
import Derived.Test.YtldhknmacepeiaaGreatDoorHSh1
import Derived.Test.YtldhknmacepeiaaGreatDoorNB05
import Derived.Test.YtldhknmacepeiaaGreatDoorNB09
import Derived.Test.YtldhknmacepeiaaGreatDoorSuTb
import Derived.Test.YtldhknmacepeiaaGreatDoorNB10
import Derived.Test.YtldhknmacepeiaaGreatDoorNC10
import Derived.Test.YtldhknmacepeiaaGreatDoorNT04
import Derived.Shelf.Small.Strs
import Derived.Shelf.Strconv.Itoa3
import Derived.Test.YtldhknmacepeiaaGreatDoorProg
import Derived.Test.YtldhknmacepeiaaGreatDoorRfc
import Derived.Test.YtldhknmacepeiaaGreatDoorNT10
import Derived.Test.YtldhknmacepeiaaGreatDoorNT13
import Derived.Test.YtldhknmacepeiaaGreatDoorNT14
import Derived.Test.YtldhknmacepeiaaGreatDoorNT15
import Derived.Test.YtldhknmacepeiaaGreatDoorRbx
set_option linter.unusedVariables false
set_option linter.unusedSimpArgs false
set_option maxRecDepth 10000
section
namespace Fly
open Go Go.Proofs Su
set_option maxRecDepth 10000
noncomputable def tbN:Tabs Tryz.prog:=Su.btsOK.sound.tb
section
variable {P:Program} {n:Nat} {X:Cx} {L:Lo} {V:View} {G:Own} {Q:Value→View→Own→Prop}
variable {ty:TypeId} {pos:String} {af:Array Edge} {gd:Option (Nat×Bool)} {ds:Option Tmp}
theorem equal_sliceN{t e:TypeId}{a:Option Addr}{len cap:Nat}(hu:P.underlying t=some (.slice e))(w:World):(Op.equal t (.slice a len cap) (.slice none 0 0)).run P w = .ok a.isNone w:=by
 show(Op.equalIn (9999+1) t (.slice a len cap) (.slice none 0 0)).run P w=_
 unfold Op.equalIn;rw[Sem.run_bind,Fly.run_underlying hu];cases a <;> rfl
theorem op_eqslN{t u e:TypeId}{x y:Operand}{a:Option Addr}{len cap:Nat}(hx:ev L x=some (.slice a len cap))(hy:ev L y=some (.slice none 0 0))(hu:P.underlying t=some (.slice e))(k:Q (.bool a.isNone) V G) :
 Opr P n X L V G ⟨ds,.binOp .eql t x y u,ty,pos,af,gd⟩ Q:=op_eqg hx hy rfl (fun w=>by simp[eqGuard]) (equal_sliceN hu) k
end
attribute [local irreducible] WC WE WR Opr St Go.Calls Fine Pure PureV Rel Fing FingD FinL Owe One Does Go.CallsD
theorem c157nN{V:View}{len cap:Nat}{Q:Value→View→Own→Prop}(hQ:Q (.slice none 0 0) V []):Fing Tryz.prog 157 #[.slice none len cap] V [] Q:=by
 refine fing_enter (args:=[_]) Tryz.func157 rfl Tryz.ntmps157 rfl ?_
 intro X w hM hb hw hV0 hR;dsimp only[argL,qF,Nat.reduceAdd]
 (repeat' (first | refine wc_seq ?_ | refine wc_region ?_ | refine wr_nil ?_ | refine we_code ?_ | refine wc_block ?_ | refine wc_skip ?_ | refine we_blk ?_ | refine wc_exit ?_ | refine we_exit_code ?_ | refine we_exit_here ?_ | refine we_exit_on rfl ?_ | refine we_exit_lp ?_ | refine wc_ret ?_ | ((first | refine w_cons rfl ?_ | refine w_cons0 ?_ | refine w_yes rfl rfl rfl ?_);(first | (refine op_eqslN (e:=105) rfl rfl (by kernel_rfl) ?_) | refine op_move rfl ?_ | refine op_assign rfl ?_ | refine op_eql rfl rfl ?_ | refine op_neq rfl rfl ?_ | refine op_lss rfl rfl ?_ | refine op_leq rfl rfl ?_ | refine op_gtr rfl rfl ?_ | refine op_geq rfl rfl ?_ | refine op_extract rfl rfl ?_ | refine op_not rfl ?_ | refine op_pick_t rfl rfl ?_ | refine op_pick_f rfl rfl ?_ | refine op_addi rfl rfl (by omega) (by omega) ?_ | refine op_subi rfl rfl (by omega) (by omega) ?_ | refine op_muli rfl rfl (by omega) (by omega) ?_ | refine op_add rfl rfl ?_ | refine op_sub rfl rfl ?_ | refine op_mul rfl rfl ?_ | refine op_fieldAddr tbN rfl rfl ?_ | refine op_field1 tbN rfl rfl rfl ?_ | refine op_and rfl rfl ?_ | refine op_or rfl rfl ?_ | refine op_xor rfl rfl ?_ | refine op_andNot rfl rfl ?_ | refine op_shl rfl rfl (by decide) ?_ | refine op_shr rfl rfl (by decide) ?_ | refine op_eqs rfl rfl ?_ | refine op_neqs rfl rfl ?_ | refine op_eqbd rfl rfl (by kernel_rfl) ?_ | refine op_neqbd rfl rfl (by kernel_rfl) ?_ | refine op_convert tbN rfl rfl rfl ?_ | refine op_neg rfl ?_ | refine op_len tbN rfl rfl rfl ?_ | (apply op_load1 tbN rfl rfl;(· (first | (refine At.own (?_);repeat (first | exact Has.here | refine Has.there ?_)) | exact At.seen (by assumption)));(· exact rfl)) | (apply op_loadN tbN rfl rfl;(· (first | (refine At.own (?_);repeat (first | exact Has.here | refine Has.there ?_)) | exact At.seen (by assumption)));(· exact rfl)) | (apply op_store1 tbN rfl rfl rfl rfl rfl;(· (repeat (first | exact Upd.here | apply Upd.there)));(· exact rfl)) | (apply op_storeN tbN rfl rfl rfl rfl rfl;(· (repeat (first | exact Upd.here | apply Upd.there)));(· exact rfl)) | (apply op_build tbN (by kernel_rfl) rfl (rfl:tbN.fo _ 0=_);(· (repeat (first | exact Fill.nil | (apply Fill.cons;(· exact rfl);(· exact rfl);(· exact rfl);(· exact rfl);(· exact rfl)))))) | (refine op_boxN rfl ?_;intro b) | (refine op_box1 rfl rfl ?_;intro b) | (refine op_alloc tbN rfl ?_;intro b) | (apply op_buildSlice tbN;(· exact rfl);(· exact rfl);(· exact rfl);(· decide);(· (repeat (first | exact Cat.nil | (apply Cat.cons;(· exact rfl);(· exact rfl);(· exact rfl)) | exact App.nil | apply App.cons)));intro b))) | refine w_no rfl rfl rfl rfl ?_ | refine wc_cond_t rfl ?_ | refine wc_cond_f rfl ?_ | refine wc_if rfl (fun _=>?_) (fun _=>?_) | refine wc_ifn rfl (fun _=>?_) (fun _=>?_) | refine w_splitd rfl rfl (fun _=>?_) (fun _=>?_) | refine w_splitn rfl rfl (fun _=>?_) (fun _=>?_) | refine wc_ifnb rfl (fun _=>?_) (fun _=>?_) | refine wc_ifb rfl (fun _=>?_) (fun _=>?_) | refine w_splitnb rfl rfl (fun _=>?_) (fun _=>?_) | refine w_splitb rfl rfl (fun _=>?_) (fun _=>?_)))
 exact fing_ret hM hw hV0 hR [] (zr _) (res1 rfl rfl) hQ
theorem c157eN{V:View}{a:Addr}{cap:Nat}{Q:Value→View→Own→Prop}(hQ:∀b,Q (.slice (some ⟨b,0,none⟩) 0 0) V [(b,.cells #[] 105 (0,0))]):Fing Tryz.prog 157 #[.slice (some a) 0 cap] V [] Q:=by
 refine fing_enter (args:=[_]) Tryz.func157 rfl Tryz.ntmps157 rfl ?_
 intro X w hM hb hw hV0 hR;dsimp only[argL,qF,Nat.reduceAdd]
 (repeat' (first | refine wc_seq ?_ | refine wc_region ?_ | refine wr_nil ?_ | refine we_code ?_ | refine wc_block ?_ | refine wc_skip ?_ | refine we_blk ?_ | refine wc_exit ?_ | refine we_exit_code ?_ | refine we_exit_here ?_ | refine we_exit_on rfl ?_ | refine we_exit_lp ?_ | refine wc_ret ?_ | ((first | refine w_cons rfl ?_ | refine w_cons0 ?_ | refine w_yes rfl rfl rfl ?_);(first | (refine op_eqslN (e:=105) rfl rfl (by kernel_rfl) ?_) | refine op_move rfl ?_ | refine op_assign rfl ?_ | refine op_eql rfl rfl ?_ | refine op_neq rfl rfl ?_ | refine op_lss rfl rfl ?_ | refine op_leq rfl rfl ?_ | refine op_gtr rfl rfl ?_ | refine op_geq rfl rfl ?_ | refine op_extract rfl rfl ?_ | refine op_not rfl ?_ | refine op_pick_t rfl rfl ?_ | refine op_pick_f rfl rfl ?_ | refine op_addi rfl rfl (by omega) (by omega) ?_ | refine op_subi rfl rfl (by omega) (by omega) ?_ | refine op_muli rfl rfl (by omega) (by omega) ?_ | refine op_add rfl rfl ?_ | refine op_sub rfl rfl ?_ | refine op_mul rfl rfl ?_ | refine op_fieldAddr tbN rfl rfl ?_ | refine op_field1 tbN rfl rfl rfl ?_ | refine op_and rfl rfl ?_ | refine op_or rfl rfl ?_ | refine op_xor rfl rfl ?_ | refine op_andNot rfl rfl ?_ | refine op_shl rfl rfl (by decide) ?_ | refine op_shr rfl rfl (by decide) ?_ | refine op_eqs rfl rfl ?_ | refine op_neqs rfl rfl ?_ | refine op_eqbd rfl rfl (by kernel_rfl) ?_ | refine op_neqbd rfl rfl (by kernel_rfl) ?_ | refine op_convert tbN rfl rfl rfl ?_ | refine op_neg rfl ?_ | refine op_len tbN rfl rfl rfl ?_ | (apply op_load1 tbN rfl rfl;(· (first | (refine At.own (?_);repeat (first | exact Has.here | refine Has.there ?_)) | exact At.seen (by assumption)));(· exact rfl)) | (apply op_loadN tbN rfl rfl;(· (first | (refine At.own (?_);repeat (first | exact Has.here | refine Has.there ?_)) | exact At.seen (by assumption)));(· exact rfl)) | (apply op_store1 tbN rfl rfl rfl rfl rfl;(· (repeat (first | exact Upd.here | apply Upd.there)));(· exact rfl)) | (apply op_storeN tbN rfl rfl rfl rfl rfl;(· (repeat (first | exact Upd.here | apply Upd.there)));(· exact rfl)) | (apply op_build tbN (by kernel_rfl) rfl (rfl:tbN.fo _ 0=_);(· (repeat (first | exact Fill.nil | (apply Fill.cons;(· exact rfl);(· exact rfl);(· exact rfl);(· exact rfl);(· exact rfl)))))) | (refine op_boxN rfl ?_;intro b) | (refine op_box1 rfl rfl ?_;intro b) | (refine op_alloc tbN rfl ?_;intro b) | (apply op_buildSlice tbN;(· exact rfl);(· exact rfl);(· exact rfl);(· decide);(· (repeat (first | exact Cat.nil | (apply Cat.cons;(· exact rfl);(· exact rfl);(· exact rfl)) | exact App.nil | apply App.cons)));intro b))) | refine w_no rfl rfl rfl rfl ?_ | refine wc_cond_t rfl ?_ | refine wc_cond_f rfl ?_ | refine wc_if rfl (fun _=>?_) (fun _=>?_) | refine wc_ifn rfl (fun _=>?_) (fun _=>?_) | refine w_splitd rfl rfl (fun _=>?_) (fun _=>?_) | refine w_splitn rfl rfl (fun _=>?_) (fun _=>?_) | refine wc_ifnb rfl (fun _=>?_) (fun _=>?_) | refine wc_ifb rfl (fun _=>?_) (fun _=>?_) | refine w_splitnb rfl rfl (fun _=>?_) (fun _=>?_) | refine w_splitb rfl rfl (fun _=>?_) (fun _=>?_)))
 refine w_cons rfl (op_append0 (e:=105) (k:=1) tbN rfl rfl rfl (qB 0) ?_)
 (repeat' (first | refine wc_seq ?_ | refine wc_region ?_ | refine wr_nil ?_ | refine we_code ?_ | refine wc_block ?_ | refine wc_skip ?_ | refine we_blk ?_ | refine wc_exit ?_ | refine we_exit_code ?_ | refine we_exit_here ?_ | refine we_exit_on rfl ?_ | refine we_exit_lp ?_ | refine wc_ret ?_ | ((first | refine w_cons rfl ?_ | refine w_cons0 ?_ | refine w_yes rfl rfl rfl ?_);(first | refine op_move rfl ?_ | refine op_assign rfl ?_ | refine op_eql rfl rfl ?_ | refine op_neq rfl rfl ?_ | refine op_lss rfl rfl ?_ | refine op_leq rfl rfl ?_ | refine op_gtr rfl rfl ?_ | refine op_geq rfl rfl ?_ | refine op_extract rfl rfl ?_ | refine op_not rfl ?_ | refine op_pick_t rfl rfl ?_ | refine op_pick_f rfl rfl ?_ | refine op_addi rfl rfl (by omega) (by omega) ?_ | refine op_subi rfl rfl (by omega) (by omega) ?_ | refine op_muli rfl rfl (by omega) (by omega) ?_ | refine op_add rfl rfl ?_ | refine op_sub rfl rfl ?_ | refine op_mul rfl rfl ?_ | refine op_fieldAddr tbN rfl rfl ?_ | refine op_field1 tbN rfl rfl rfl ?_ | refine op_and rfl rfl ?_ | refine op_or rfl rfl ?_ | refine op_xor rfl rfl ?_ | refine op_andNot rfl rfl ?_ | refine op_shl rfl rfl (by decide) ?_ | refine op_shr rfl rfl (by decide) ?_ | refine op_eqs rfl rfl ?_ | refine op_neqs rfl rfl ?_ | refine op_eqbd rfl rfl (by kernel_rfl) ?_ | refine op_neqbd rfl rfl (by kernel_rfl) ?_ | refine op_convert tbN rfl rfl rfl ?_ | refine op_neg rfl ?_ | refine op_len tbN rfl rfl rfl ?_ | (apply op_load1 tbN rfl rfl;(· (first | (refine At.own (?_);repeat (first | exact Has.here | refine Has.there ?_)) | exact At.seen (by assumption)));(· exact rfl)) | (apply op_loadN tbN rfl rfl;(· (first | (refine At.own (?_);repeat (first | exact Has.here | refine Has.there ?_)) | exact At.seen (by assumption)));(· exact rfl)) | (apply op_store1 tbN rfl rfl rfl rfl rfl;(· (repeat (first | exact Upd.here | apply Upd.there)));(· exact rfl)) | (apply op_storeN tbN rfl rfl rfl rfl rfl;(· (repeat (first | exact Upd.here | apply Upd.there)));(· exact rfl)) | (apply op_build tbN (by kernel_rfl) rfl (rfl:tbN.fo _ 0=_);(· (repeat (first | exact Fill.nil | (apply Fill.cons;(· exact rfl);(· exact rfl);(· exact rfl);(· exact rfl);(· exact rfl)))))) | (refine op_boxN rfl ?_;intro b) | (refine op_box1 rfl rfl ?_;intro b) | (refine op_alloc tbN rfl ?_;intro b) | (apply op_buildSlice tbN;(· exact rfl);(· exact rfl);(· exact rfl);(· decide);(· (repeat (first | exact Cat.nil | (apply Cat.cons;(· exact rfl);(· exact rfl);(· exact rfl)) | exact App.nil | apply App.cons)));intro b))) | refine w_no rfl rfl rfl rfl ?_ | refine wc_cond_t rfl ?_ | refine wc_cond_f rfl ?_ | refine wc_if rfl (fun _=>?_) (fun _=>?_) | refine wc_ifn rfl (fun _=>?_) (fun _=>?_) | refine w_splitd rfl rfl (fun _=>?_) (fun _=>?_) | refine w_splitn rfl rfl (fun _=>?_) (fun _=>?_) | refine wc_ifnb rfl (fun _=>?_) (fun _=>?_) | refine wc_ifb rfl (fun _=>?_) (fun _=>?_) | refine w_splitnb rfl rfl (fun _=>?_) (fun _=>?_) | refine w_splitb rfl rfl (fun _=>?_) (fun _=>?_)))
 exact fing_ret hM hw hV0 hR [(b,.cells #[] 105 (0,0))] (zr _) (res1 rfl rfl) (hQ b)
theorem c157sN{V:View}{bb off len cap:Nat}{news:List Value}{Q:Value→View→Own→Prop}(hn:news.length=len*1)(h1:∀u∈news,u.oneCell'=true)(hr:∀(j:Nat) (u:Value),news[j]?=some u→rd V bb (off+j) u)(h0:0<len)(hl:len≤549755813888)
 (hQ:∀v' Gr',RowC 105 1 v' Gr' len news→Q v' V Gr'):Fing Tryz.prog 157 #[.slice (some ⟨bb,off,none⟩) len cap] V [] Q:=by
 refine fing_enter (args:=[_]) Tryz.func157 rfl Tryz.ntmps157 rfl ?_
 intro X w hM hb hw hV0 hR;dsimp only[argL,qF,Nat.reduceAdd]
 (repeat' (first | refine wc_seq ?_ | refine wc_region ?_ | refine wr_nil ?_ | refine we_code ?_ | refine wc_block ?_ | refine wc_skip ?_ | refine we_blk ?_ | refine wc_exit ?_ | refine we_exit_code ?_ | refine we_exit_here ?_ | refine we_exit_on rfl ?_ | refine we_exit_lp ?_ | refine wc_ret ?_ | ((first | refine w_cons rfl ?_ | refine w_cons0 ?_ | refine w_yes rfl rfl rfl ?_);(first | (refine op_eqslN (e:=105) rfl rfl (by kernel_rfl) ?_) | refine op_move rfl ?_ | refine op_assign rfl ?_ | refine op_eql rfl rfl ?_ | refine op_neq rfl rfl ?_ | refine op_lss rfl rfl ?_ | refine op_leq rfl rfl ?_ | refine op_gtr rfl rfl ?_ | refine op_geq rfl rfl ?_ | refine op_extract rfl rfl ?_ | refine op_not rfl ?_ | refine op_pick_t rfl rfl ?_ | refine op_pick_f rfl rfl ?_ | refine op_addi rfl rfl (by omega) (by omega) ?_ | refine op_subi rfl rfl (by omega) (by omega) ?_ | refine op_muli rfl rfl (by omega) (by omega) ?_ | refine op_add rfl rfl ?_ | refine op_sub rfl rfl ?_ | refine op_mul rfl rfl ?_ | refine op_fieldAddr tbN rfl rfl ?_ | refine op_field1 tbN rfl rfl rfl ?_ | refine op_and rfl rfl ?_ | refine op_or rfl rfl ?_ | refine op_xor rfl rfl ?_ | refine op_andNot rfl rfl ?_ | refine op_shl rfl rfl (by decide) ?_ | refine op_shr rfl rfl (by decide) ?_ | refine op_eqs rfl rfl ?_ | refine op_neqs rfl rfl ?_ | refine op_eqbd rfl rfl (by kernel_rfl) ?_ | refine op_neqbd rfl rfl (by kernel_rfl) ?_ | refine op_convert tbN rfl rfl rfl ?_ | refine op_neg rfl ?_ | refine op_len tbN rfl rfl rfl ?_ | (apply op_load1 tbN rfl rfl;(· (first | (refine At.own (?_);repeat (first | exact Has.here | refine Has.there ?_)) | exact At.seen (by assumption)));(· exact rfl)) | (apply op_loadN tbN rfl rfl;(· (first | (refine At.own (?_);repeat (first | exact Has.here | refine Has.there ?_)) | exact At.seen (by assumption)));(· exact rfl)) | (apply op_store1 tbN rfl rfl rfl rfl rfl;(· (repeat (first | exact Upd.here | apply Upd.there)));(· exact rfl)) | (apply op_storeN tbN rfl rfl rfl rfl rfl;(· (repeat (first | exact Upd.here | apply Upd.there)));(· exact rfl)) | (apply op_build tbN (by kernel_rfl) rfl (rfl:tbN.fo _ 0=_);(· (repeat (first | exact Fill.nil | (apply Fill.cons;(· exact rfl);(· exact rfl);(· exact rfl);(· exact rfl);(· exact rfl)))))) | (refine op_boxN rfl ?_;intro b) | (refine op_box1 rfl rfl ?_;intro b) | (refine op_alloc tbN rfl ?_;intro b) | (apply op_buildSlice tbN;(· exact rfl);(· exact rfl);(· exact rfl);(· decide);(· (repeat (first | exact Cat.nil | (apply Cat.cons;(· exact rfl);(· exact rfl);(· exact rfl)) | exact App.nil | apply App.cons)));intro b))) | refine w_no rfl rfl rfl rfl ?_ | refine wc_cond_t rfl ?_ | refine wc_cond_f rfl ?_ | refine wc_if rfl (fun _=>?_) (fun _=>?_) | refine wc_ifn rfl (fun _=>?_) (fun _=>?_) | refine w_splitd rfl rfl (fun _=>?_) (fun _=>?_) | refine w_splitn rfl rfl (fun _=>?_) (fun _=>?_) | refine wc_ifnb rfl (fun _=>?_) (fun _=>?_) | refine wc_ifb rfl (fun _=>?_) (fun _=>?_) | refine w_splitnb rfl rfl (fun _=>?_) (fun _=>?_) | refine w_splitb rfl rfl (fun _=>?_) (fun _=>?_)))
 refine w_cons rfl (op_appendG (e:=105) (k:=1) (m:=0) (z:=[.int .u32 0]) (Gr:=[(b,.cells #[] 105 (0,0))]) (G1:=[]) (xs:=[]) (news:=news) tbN rfl rfl rfl (qn (by kernel_rfl)) rfl rfl (fun w hw j u hj=>?_) hn h1 (RowC.some (g:=b) (cur:=#[]) (qB 0) (qB 0) (by simp[maxLen]) rfl rfl) (ji _) h0 (by omega) fun v' Gr' hR'=>?_)
 · obtain⟨arr,e,f0,q1,q2⟩:=hr j u hj
   rw[addr_add,cell_of (hw.view _ _ q1)];exact q2
 · (repeat' (first | refine wc_seq ?_ | refine wc_region ?_ | refine wr_nil ?_ | refine we_code ?_ | refine wc_block ?_ | refine wc_skip ?_ | refine we_blk ?_ | refine wc_exit ?_ | refine we_exit_code ?_ | refine we_exit_here ?_ | refine we_exit_on rfl ?_ | refine we_exit_lp ?_ | refine wc_ret ?_ | ((first | refine w_cons rfl ?_ | refine w_cons0 ?_ | refine w_yes rfl rfl rfl ?_);(first | refine op_move rfl ?_ | refine op_assign rfl ?_ | refine op_eql rfl rfl ?_ | refine op_neq rfl rfl ?_ | refine op_lss rfl rfl ?_ | refine op_leq rfl rfl ?_ | refine op_gtr rfl rfl ?_ | refine op_geq rfl rfl ?_ | refine op_extract rfl rfl ?_ | refine op_not rfl ?_ | refine op_pick_t rfl rfl ?_ | refine op_pick_f rfl rfl ?_ | refine op_addi rfl rfl (by omega) (by omega) ?_ | refine op_subi rfl rfl (by omega) (by omega) ?_ | refine op_muli rfl rfl (by omega) (by omega) ?_ | refine op_add rfl rfl ?_ | refine op_sub rfl rfl ?_ | refine op_mul rfl rfl ?_ | refine op_fieldAddr tbN rfl rfl ?_ | refine op_field1 tbN rfl rfl rfl ?_ | refine op_and rfl rfl ?_ | refine op_or rfl rfl ?_ | refine op_xor rfl rfl ?_ | refine op_andNot rfl rfl ?_ | refine op_shl rfl rfl (by decide) ?_ | refine op_shr rfl rfl (by decide) ?_ | refine op_eqs rfl rfl ?_ | refine op_neqs rfl rfl ?_ | refine op_eqbd rfl rfl (by kernel_rfl) ?_ | refine op_neqbd rfl rfl (by kernel_rfl) ?_ | refine op_convert tbN rfl rfl rfl ?_ | refine op_neg rfl ?_ | refine op_len tbN rfl rfl rfl ?_ | (apply op_load1 tbN rfl rfl;(· (first | (refine At.own (?_);repeat (first | exact Has.here | refine Has.there ?_)) | exact At.seen (by assumption)));(· exact rfl)) | (apply op_loadN tbN rfl rfl;(· (first | (refine At.own (?_);repeat (first | exact Has.here | refine Has.there ?_)) | exact At.seen (by assumption)));(· exact rfl)) | (apply op_store1 tbN rfl rfl rfl rfl rfl;(· (repeat (first | exact Upd.here | apply Upd.there)));(· exact rfl)) | (apply op_storeN tbN rfl rfl rfl rfl rfl;(· (repeat (first | exact Upd.here | apply Upd.there)));(· exact rfl)) | (apply op_build tbN (by kernel_rfl) rfl (rfl:tbN.fo _ 0=_);(· (repeat (first | exact Fill.nil | (apply Fill.cons;(· exact rfl);(· exact rfl);(· exact rfl);(· exact rfl);(· exact rfl)))))) | (refine op_boxN rfl ?_;intro b) | (refine op_box1 rfl rfl ?_;intro b) | (refine op_alloc tbN rfl ?_;intro b) | (apply op_buildSlice tbN;(· exact rfl);(· exact rfl);(· exact rfl);(· decide);(· (repeat (first | exact Cat.nil | (apply Cat.cons;(· exact rfl);(· exact rfl);(· exact rfl)) | exact App.nil | apply App.cons)));intro b))) | refine w_no rfl rfl rfl rfl ?_ | refine wc_cond_t rfl ?_ | refine wc_cond_f rfl ?_ | refine wc_if rfl (fun _=>?_) (fun _=>?_) | refine wc_ifn rfl (fun _=>?_) (fun _=>?_) | refine w_splitd rfl rfl (fun _=>?_) (fun _=>?_) | refine w_splitn rfl rfl (fun _=>?_) (fun _=>?_) | refine wc_ifnb rfl (fun _=>?_) (fun _=>?_) | refine wc_ifb rfl (fun _=>?_) (fun _=>?_) | refine w_splitnb rfl rfl (fun _=>?_) (fun _=>?_) | refine w_splitb rfl rfl (fun _=>?_) (fun _=>?_)))
   rw[jw];refine fing_ret hM hw hV0 hR Gr' (zr _) (res1 rfl rfl) (hQ _ _ ?_)
   rw[qF,jp]at hR';exact hR'
end Fly
namespace Su
open Go Go.Proofs Fly
theorem sub_wholeN(l:List T):sub l 0 l.length=some l:=sub_all l
theorem fresh_plainN{P:Program}{f:Nat}{V:View}{vs:List Value}{l:List T}{e w:Nat}
 (h:Fing P f vs.toArray V [] fun v V' G'=>∃ie,RepOB V' [ie] (.row false e w l) ie G'∧RepS V' [ie] (.osl 0 0 l.length) v):Fing P f vs.toArray V [] fun v V' _=>∃rvs,RepA V' [.sl w l] rvs∧v=resV rvs:=by
 intro w0 hs hG hV hnd;refine(h w0 hs hG hV hnd).mono ?_
 rintro ex w' ⟨v,V',G',rfl,hh,ie,m1,m2⟩
 have hsub:sub l 0 l.length=some l:=sub_wholeN l
 have hz:toTs 64 ⟨[],[],[.row false e w l]⟩ [.osl 0 0 l.length]=some ([.sl w l],(St.mk [] [] [.row false e w l]).frow 0 w l):=by
  simp only[toTs,toT,yN,hsub,qf]
 obtain⟨V2,G2,g2,s2,r2,_⟩:=(toT_both (I:=[ie]) (L:=[]) 64).2 ⟨[],[],[.row false e w l]⟩ _ [.osl 0 0 l.length] _ hz V' G' [v] (.cons m2 .nil) ⟨⟨G'++[],.cons m1 .nil,by rw[jw]⟩,fun d sv hd _=>by simp[St.look]at hd⟩ ⟨fun p hp=>(hh.free p (by simp[hp])).2,by have:=hh.nodup;simpa using this⟩
 exact⟨_,V2,G2,rfl,g2.holds _ _ hh,[v],r2,rfl⟩
noncomputable def nClone_p:PrimD:=⟨List Int,fun xs=>((d1 (cQ 1 1)).dec xs).bind fun l=>bif lenN l then some l else none,fun l=>[.sl 1 (l.map eW)],none,some (105,1),fun _=>none⟩
theorem clone_lawN{V:View}{v:Value}{l:List T}(hl:l.length≤549755813888)(h:Rep V (.sl 1 l) v) :
 Fing Tryz.prog 157 #[v] V [] fun v' V' G'=>∃ie,RepOB V' [ie] (.row false 105 1 l) ie G'∧RepS V' [ie] (.osl 0 0 l.length) v':=by
 cases h with | @sl _ _ vs a cap a1 a2 a3 a4 a5 a6=>
 have hn:vs.length=l.length*1:=by rw[← a1.length,flat_len a3]
 by_cases h0:l=[]
 · subst h0
   cases a with
   | none=>exact c157nN ⟨.vrow,.vrow,.oslv rfl⟩
   | some a=>exact c157eN fun b=>⟨.row b 1 0,.row (by simp) (by simp[maxLen]) (by simp) (by simpa using RepA.nil) (by simp) (by simp),by
    have:=RepS.osl (V:=V) (I:=[IE.row b 1 0]) (n:=0) (off:=0) (len:=0) (b:=b) (k:=1) (ct:=0) (cap:=0) rfl (by omega) (by simp[maxLen]) ⟨by simp,by simp⟩
    simpa using this⟩
 · have hpos:0<l.length:=List.length_pos_iff.2 h0
   rcases a6 with a6 | ⟨b,off,rfl,a6⟩
   · exact absurd a6 h0
   · refine c157sN hn (repA_one a1 a2) a6 hpos hl fun v' Gr' hR=>?_
     obtain⟨b',ct,cap,rfl,b1,b2,b3⟩:=rowOf (V:=V) (I:=[.row 0 0 0]) (l:=l) hR hpos rfl a1 a2 a3
     refine⟨.row b' 1 ct,b3.row_any,?_⟩
     have:=RepS.osl (V:=V) (I:=[IE.row b' 1 ct]) (n:=0) (off:=0) (len:=l.length) (b:=b') (k:=1) (ct:=ct) (cap:=cap) rfl (by omega) b2 ⟨b1.1,by omega⟩
     rw[jS]at this;exact this
theorem nClone_f(xs:List T)(y:List Int)(h:((d1 (cQ 1 1)).dec xs).bind (fun l=>bif lenN l then some l else none)=some y)(V:View)(vs:List Value)(hr:RepA V xs vs) :
 Fing Tryz.prog 157 vs.toArray V [] fun v V' G'=>∃ie,RepOB V' [ie] (.row false 105 1 (y.map eW)) ie G'∧RepS V' [ie] (.osl 0 0 (y.map eW).length) v:=by
 obtain⟨l,h1,h2⟩:=osm h;obtain⟨h3,h4⟩:=bif_some h2;have:=soi h4;subst this
 have hr2:=(d1 (cQ 1 1)).rep h1 hr
 cases hr2 with | cons k1 k2=>cases k2 with | nil=>
 cases k1 with | ql k1=>
 exact clone_lawN (l:=l.map eW) (by have h5:(l.map (view 1)).length=l.length:=qD ..;rw[show(List.map eW l).length=l.length from h5];exact qn h3) k1
theorem nClone_c:OkT 157 nClone_p:=by
 refine⟨by kernel_rfl,fun xs y h V vs _ hr=>fresh_plainN (nClone_f xs y h V vs hr),fun j hj xs y h V vs _ hr=>?_⟩
 have hj:some ((105,1):Nat×Nat)=some j:=hj
 simp only[qa]at hj;subst hj;intro w0 a1 a2 a3 a4;refine(nClone_f xs y h V vs hr w0 a1 a2 a3 a4).mono ?_
 rintro e w' ⟨v,V',G',rfl,hh,ie,m1,m2⟩
 refine⟨v,V',G',rfl,hh,fun w l he hw=>?_⟩
 have he:[T.sl 1 (y.map eW)]=[.sl w l]:=he
 simp only[zA,T.sl.injEq,and_true]at he;obtain⟨rfl,rfl⟩:=he;exact⟨ie,m1,m2⟩
end Su
end
section
namespace Su
noncomputable section
open Go Go.Proofs Fly
def Short_p:PrimD:=prim (dc (cQ 1 1) (d1 (cI .u32))) (dc (cQ 1 1) (d1 (cQ 1 1))) Short_s
theorem Short_c:OkT 112 Short_p:=by
 refine⟨by kernel_rfl,fun xs y h V vs hgk hr=>?_,fun j hj=>nomatch hj⟩
 obtain⟨p,h1,h2⟩:=osm (show((dc (cQ 1 1) (d1 (cI .u32))).dec xs).bind Short_s=some y from h)
 have hr2:=(dc (cQ 1 1) (d1 (cI .u32))).rep h1 hr
 have hg:=(dc (cQ 1 1) (d1 (cI .u32))).rng hr2
 obtain⟨a,b⟩:=p;obtain⟨h3,h4⟩:=bif_some h2;have:=soi h4;subst this
 rw[qk,qE]at h3;obtain⟨⟨ha,la⟩,hb⟩:=hg;have hb:=inR_u32.1 hb;obtain⟨h3a,h3b⟩:=h3;have h3a:0<b:=h3a
 obtain⟨B,rfl⟩:∃B:Nat,b=(B:Int):=⟨b.toNat,by omega⟩
 cases hr2 with | cons k1 k2=>
 cases k2 with | cons k2 k3=>
 cases k3 with | nil=>
 cases k2 with | s k2=>
 exact Go.Proofs.Sho.short_fing hgk (Wd.of ha) (by omega) (by have:=hb.2;omega) (qn h3b) k1
def Clone_p:PrimD:=prim (d1 (cQ 1 1)) (d1 (cQ 1 1)) Clone_s
theorem Clone_c:OkT 157 Clone_p:=by
 refine⟨by kernel_rfl,fun xs y h V vs hg hr=>?_,fun j hj=>nomatch hj⟩
 have hF:=nClone_c.2.1 xs y h V vs hg hr;intro w a1 a2 a3 a4;refine(hF w a1 a2 a3 a4).mono ?_
 rintro e w' ⟨v,V',G',rfl,hh,rvs,m1,rfl⟩
 refine⟨_,V',G',rfl,hh,rvs,?_,rfl⟩
 have m1:RepA V' [.sl 1 (List.map (view 1) (y:List (U 1)))] rvs:=m1
 cases m1 with | cons k1 k2=>cases k2 with | nil=>exact .cons (.ql k1) .nil
def pr_B08:Prims:=extL [(157,Clone_p),(112,Short_p)] pr_B07
theorem pr_B08_ok:PkT pr_B08:=extL_ok pr_B07_ok (ok_cons Clone_c (ok_cons Short_c ok_nil))
end
end Su
end
section
namespace Su
noncomputable section
open Go Go.Proofs Fly
set_option maxRecDepth 100000
def Div_p:PrimD:=prim (dc (cQ 1 1) (d1 (cQ 1 1))) (dc (cQ 1 1) (dc (cQ 1 1) (d1 (cI .i64)))) (Div_s)
theorem Div_c:OkT 108 Div_p:=loopL k_ok pr_B08_ok (fun fu a=>Div fu a.1 a.2) (by kernel_rfl) (fun _ _=>by kernel_rfl) Div_ok
def pr_B09:Prims:=extL [(108,Div_p)] pr_B08
theorem pr_B09_ok:PkT pr_B09:=extL_ok pr_B08_ok (ok_cons Div_c ok_nil)
end
end Su
end
section
namespace Su
noncomputable section
open Go Go.Proofs Fly
set_option maxRecDepth 100000
def Gcd_p:PrimD:=prim (dc (cQ 1 1) (d1 (cQ 1 1))) (d1 (cQ 1 1)) (Gcd_s)
theorem Gcd_c:OkT 124 Gcd_p:=loopL k_ok pr_B09_ok (fun fu a=>Gcd fu a.1 a.2) (by kernel_rfl) (fun _ _=>by kernel_rfl) Gcd_ok
def pr_B10:Prims:=extL [(124,Gcd_p)] pr_B09
theorem pr_B10_ok:PkT pr_B10:=extL_ok pr_B09_ok (ok_cons Gcd_c ok_nil)
end
end Su
end
section
namespace Su
open Go Go.Proofs Fly
set_option maxRecDepth 100000
noncomputable def pr_T00:Prims:=extL [] pr_B10
theorem pr_T00_ok:PkT pr_T00:=extL_ok pr_B10_ok ok_nil
end Su
end
section
namespace Su
noncomputable section
open Go Go.Proofs Fly
set_option maxRecDepth 100000
def Len64_p:PrimD:=prim (d1 (cI .u64)) (d1 (cI .i64)) (Len64_s)
theorem Len64_c:OkT 122 Len64_p:=specL k_ok pr_T00_ok (fun a=>Len64 a) (by kernel_rfl) (fun _ _=>by kernel_rfl) Len64_ok
def pr_C07:Prims:=extL [(122,Len64_p)] pr_T00
theorem pr_C07_ok:PkT pr_C07:=extL_ok pr_T00_ok (ok_cons Len64_c ok_nil)
end
end Su
end
section
namespace Su
noncomputable section
open Go Go.Proofs Fly
set_option maxRecDepth 100000
def wLen_p:PrimD:=prim (d1 cW) (d1 (cI .i64)) (wLen_s)
theorem wLen_c:OkT 152 wLen_p:=specL k_ok pr_C07_ok (fun a=>wLen a) (by kernel_rfl) (fun _ _=>by kernel_rfl) wLen_ok
def wShl_p:PrimD:=prim (dc cW (d1 (cI .i64))) (d1 cW) (wShl_s)
theorem wShl_c:OkT 154 wShl_p:=loopL k_ok pr_C07_ok (fun fu a=>wShl fu a.1 a.2) (by kernel_rfl) (fun _ _=>by kernel_rfl) wShl_ok
def wShr_p:PrimD:=prim (dc cW (d1 (cI .i64))) (dc cW (d1 cB)) (wShr_s)
theorem wShr_c:OkT 153 wShr_p:=loopL k_ok pr_C07_ok (fun fu a=>wShr fu a.1 a.2) (by kernel_rfl) (fun _ _=>by kernel_rfl) wShr_ok
def pr_C08:Prims:=extL [(152,wLen_p),(154,wShl_p),(153,wShr_p)] pr_C07
theorem pr_C08_ok:PkT pr_C08:=extL_ok pr_C07_ok (ok_cons wLen_c (ok_cons wShl_c (ok_cons wShr_c ok_nil)))
end
end Su
end
section
namespace Su
noncomputable section
open Go Go.Proofs Fly
set_option maxRecDepth 100000
def rUp_p:PrimD:=prim (dc cNmb (dc (cI .u8) (dc cB (dc cB (d1 cB))))) (d1 cB) (rUp_s)
theorem rUp_c:OkT 155 rUp_p:=specL k_ok pr_C08_ok (fun a=>rUp a.1 a.2.1 a.2.2.1 a.2.2.2.1 a.2.2.2.2) (by kernel_rfl) (fun _ _=>by kernel_rfl) rUp_ok
def rOver_p:PrimD:=prim (dc cNmb (d1 (cI .u8))) (dc (cI .u64) (d1 (cI .u8))) (rOver_s)
theorem rOver_c:OkT 156 rOver_p:=specL k_ok pr_C08_ok (fun a=>rOver a.1 a.2) (by kernel_rfl) (fun _ _=>by kernel_rfl) rOver_ok
def pr_C09:Prims:=extL [(155,rUp_p),(156,rOver_p)] pr_C08
theorem pr_C09_ok:PkT pr_C09:=extL_ok pr_C08_ok (ok_cons rUp_c (ok_cons rOver_c ok_nil))
end
end Su
end
section
namespace Su
noncomputable section
open Go Go.Proofs Fly
set_option maxRecDepth 100000
def rFloat_p:PrimD:=prim (dc cNmb (d1 (cI .u8))) (dc (cI .u64) (d1 (cI .u8))) (rFloat_s)
theorem rFloat_c:OkT 106 rFloat_p:=specL k_ok pr_C09_ok (fun a=>rFloat a.1 a.2) (by kernel_rfl) (fun _ _=>by kernel_rfl) rFloat_ok
def pr_C10:Prims:=extL [(106,rFloat_p)] pr_C09
theorem pr_C10_ok:PkT pr_C10:=extL_ok pr_C09_ok (ok_cons rFloat_c ok_nil)
end
end Su
end
section
namespace Su
noncomputable section
open Go Go.Proofs Fly
set_option maxRecDepth 100000
def tLB_p:PrimD:=prim (dc cS (d1 (cI .u8))) (d1 cS) (tLB_s)
theorem tLB_c:OkT 117 tLB_p:=loopL k_ok pr_C10_ok (fun fu a=>tLB fu a.1 a.2) (by kernel_rfl) (fun _ _=>by kernel_rfl) tLB_ok
def tRB_p:PrimD:=prim (dc cS (d1 (cI .u8))) (d1 cS) (tRB_s)
theorem tRB_c:OkT 162 tRB_p:=loopL k_ok pr_C10_ok (fun fu a=>tRB fu a.1 a.2) (by kernel_rfl) (fun _ _=>by kernel_rfl) tRB_ok
def tNou_p:PrimD:=prim (d1 (cI .i64)) (d1 cS) (tNou_s)
theorem tNou_c:OkT 56 tNou_p:=loopL k_ok pr_C10_ok (fun fu a=>tNou fu a) (by kernel_rfl) (fun _ _=>by kernel_rfl) tNou_ok
def tRd_p:PrimD:=prim (d1 (cI .i64)) (d1 cS) (tRd_s)
theorem tRd_c:OkT 57 tRd_p:=loopL k_ok pr_C10_ok (fun fu a=>tRd fu a) (by kernel_rfl) (fun _ _=>by kernel_rfl) tRd_ok
def pr_T01:Prims:=extL [(117,tLB_p),(162,tRB_p),(56,tNou_p),(57,tRd_p)] pr_C10
theorem pr_T01_ok:PkT pr_T01:=extL_ok pr_C10_ok (ok_cons tLB_c (ok_cons tRB_c (ok_cons tNou_c (ok_cons tRd_c ok_nil))))
end
end Su
end
section
namespace Su
noncomputable section
open Go Go.Proofs Fly
set_option maxRecDepth 100000
def bLen_p:PrimD:=prim (d1 (cI .u64)) (d1 (cI .i64)) (fun a=>bLen a)
theorem bLen_c:OkT 64 bLen_p:=fnL k_ok pr_T01_ok (by kernel_rfl) (fun _ _=>by kernel_rfl)
def pr_T02:Prims:=extL [(64,bLen_p)] pr_T01
theorem pr_T02_ok:PkT pr_T02:=extL_ok pr_T01_ok (ok_cons bLen_c ok_nil)
end
end Su
end
section
namespace Su
noncomputable section
open Go Go.Proofs Fly
set_option maxRecDepth 100000
def nPow_p:PrimD:=prim (dc (cI .u64) (d1 (cI .i64))) (dc (cQ 1 1) (d1 (cI .i64))) (nPow_s)
theorem nPow_c:OkT 20 nPow_p:=loopL k_ok pr_T02_ok (fun fu a=>nPow fu a.1 a.2) (by kernel_rfl) (fun _ _=>by kernel_rfl) nPow_ok
def rTwo_p:PrimD:=prim (d1 (cI .i64)) (d1 (cQ 1 1)) (rTwo_s)
theorem rTwo_c:OkT 107 rTwo_p:=specL k_ok pr_T02_ok (fun a=>rTwo a) (by kernel_rfl) (fun _ _=>by kernel_rfl) rTwo_ok
def pr_T03:Prims:=extL [(20,nPow_p),(107,rTwo_p)] pr_T02
theorem pr_T03_ok:PkT pr_T03:=extL_ok pr_T02_ok (ok_cons nPow_c (ok_cons rTwo_c ok_nil))
end
end Su
end
section
namespace Su
noncomputable section
open Go Go.Proofs Fly
set_option maxRecDepth 100000
def rFrac_p:PrimD:=prim (dc cB (dc (cQ 1 1) (dc (cQ 1 1) (d1 (cI .u8))))) (dc (cI .u64) (d1 (cI .u8))) (rFrac_s)
theorem rFrac_c:OkT 50 rFrac_p:=specL k_ok pr_T03_ok (fun a=>rFrac a.1 a.2.1 a.2.2.1 a.2.2.2) (by kernel_rfl) (fun _ _=>by kernel_rfl) rFrac_ok
def pr_T04:Prims:=extL [(50,rFrac_p)] pr_T03
theorem pr_T04_ok:PkT pr_T04:=extL_ok pr_T03_ok (ok_cons rFrac_c ok_nil)
end
end Su
end
section
namespace Su
noncomputable section
open Go Go.Proofs Fly
set_option maxRecDepth 100000
def nParse_p:PrimD:=prim (d1 cS) (dc (cQ 1 1) (d1 (cI .i64))) (nParse_s)
theorem nParse_c:OkT 19 nParse_p:=loopL k_ok pr_T04_ok (fun fu a=>nParse fu a) (by kernel_rfl) (fun _ _=>by kernel_rfl) nParse_ok
def pr_T05:Prims:=extL [(19,nParse_p)] pr_T04
theorem pr_T05_ok:PkT pr_T05:=extL_ok pr_T04_ok (ok_cons nParse_c ok_nil)
end
end Su
end
section
namespace Su
noncomputable section
open Go Go.Proofs Fly
set_option maxRecDepth 100000
def nText_p:PrimD:=prim (d1 (cQ 1 1)) (d1 cS) (nText_s)
theorem nText_c:OkT 54 nText_p:=loopL k_ok pr_T05_ok (fun fu a=>nText fu a) (by kernel_rfl) (fun _ _=>by kernel_rfl) nText_ok
def pr_T06:Prims:=extL [(54,nText_p)] pr_T05
theorem pr_T06_ok:PkT pr_T06:=extL_ok pr_T05_ok (ok_cons nText_c ok_nil)
end
end Su
end
section
namespace Go.Proofs
open Go.Shelf
def Tryz.idxB_ren:Go.Shelf.Ren:=⟨fun | 137=>125 | 217=>170 | 266=>194 | n=>n,fun | 9=>9 | 5=>5 | 3=>3 | n=>n,fun | n=>n⟩
theorem Tryz.idxB:Go.Proofs.Lays.n137 Tryz.prog Tryz.idxB_ren:={
 mixed:=by kernel_rfl
 f137:=Tryz.func125.trans (congrArg some (by kernel_rfl))
 f217:=Tryz.func170.trans (congrArg some (by kernel_rfl))
 f266:=Tryz.func194.trans (congrArg some (by kernel_rfl))
 t3:=Tryz.underlying3
 a3:=Tryz.isAgg3
 z3:=Tryz.sizeOf3
 v3:=Tryz.zeroValue3
 t5:=Tryz.underlying5
 a5:=Tryz.isAgg5
 z5:=Tryz.sizeOf5
 v5:=Tryz.zeroValue5
 t9:=Tryz.underlying9
 a9:=Tryz.isAgg9
 z9:=Tryz.sizeOf9
 v9:=Tryz.zeroValue9 }
def Tryz.itoa_ren:Go.Shelf.Ren:=⟨fun | 171=>94 | 243=>145 | 246=>184 | 283=>205 | 284=>206 | 285=>207 | 286=>208 | 129=>122 | 317=>224 | 318=>225 | 319=>226 | 320=>227 | 337=>235 | 338=>236 | n=>n,fun | 3=>3 | 9=>9 | 2=>2 | 4=>4 | 171=>245 | 0=>0 | 53=>22 | 37=>129 | 5=>5 | 173=>247 | 212=>266 | 51=>105 | 20=>20 | 213=>267 | 46=>28 | 232=>282 | 233=>283 | n=>n,fun | 17=>4 | 18=>7 | 19=>8 | n=>n⟩
theorem Tryz.itoa:Go.Proofs.LaysM.n171 Tryz.prog Tryz.itoa_ren:={
 mixed:=by kernel_rfl
 f129:=Tryz.func122.trans (congrArg some (by kernel_rfl))
 f171:=Tryz.func94.trans (congrArg some (by kernel_rfl))
 f243:=Tryz.func145.trans (congrArg some (by kernel_rfl))
 f246:=Tryz.func184.trans (congrArg some (by kernel_rfl))
 f283:=Tryz.func205.trans (congrArg some (by kernel_rfl))
 f284:=Tryz.func206.trans (congrArg some (by kernel_rfl))
 f285:=Tryz.func207.trans (congrArg some (by kernel_rfl))
 f286:=Tryz.func208.trans (congrArg some (by kernel_rfl))
 f317:=Tryz.func224.trans (congrArg some (by kernel_rfl))
 f318:=Tryz.func225.trans (congrArg some (by kernel_rfl))
 f319:=Tryz.func226.trans (congrArg some (by kernel_rfl))
 f320:=Tryz.func227.trans (congrArg some (by kernel_rfl))
 f337:=Tryz.func235.trans (congrArg some (by kernel_rfl))
 f338:=Tryz.func236.trans (congrArg some (by kernel_rfl))
 t0:=Tryz.underlying0
 a0:=Tryz.isAgg0
 z0:=Tryz.sizeOf0
 v0:=Tryz.zeroValue0
 t2:=Tryz.underlying2
 a2:=Tryz.isAgg2
 z2:=Tryz.sizeOf2
 v2:=Tryz.zeroValue2
 t3:=Tryz.underlying3
 a3:=Tryz.isAgg3
 z3:=Tryz.sizeOf3
 v3:=Tryz.zeroValue3
 t4:=Tryz.underlying4
 a4:=Tryz.isAgg4
 z4:=Tryz.sizeOf4
 v4:=Tryz.zeroValue4
 t5:=Tryz.underlying5
 a5:=Tryz.isAgg5
 z5:=Tryz.sizeOf5
 v5:=Tryz.zeroValue5
 t9:=Tryz.underlying9
 a9:=Tryz.isAgg9
 z9:=Tryz.sizeOf9
 v9:=Tryz.zeroValue9
 t20:=Tryz.underlying20
 a20:=Tryz.isAgg20
 z20:=Tryz.sizeOf20
 v20:=Tryz.zeroValue20
 t37:=Tryz.underlying129
 a37:=Tryz.isAgg129
 z37:=Tryz.sizeOf129
 v37:=Tryz.zeroValue129
 t46:=Tryz.underlying28
 a46:=Tryz.isAgg28
 z46:=Tryz.sizeOf28
 v46:=Tryz.zeroValue28
 t51:=Tryz.underlying105
 a51:=Tryz.isAgg105
 z51:=Tryz.sizeOf105
 v51:=Tryz.zeroValue105
 t53:=Tryz.underlying22
 a53:=Tryz.isAgg22
 z53:=Tryz.sizeOf22
 v53:=Tryz.zeroValue22
 t171:=Tryz.underlying245
 a171:=Tryz.isAgg245
 z171:=Tryz.sizeOf245
 v171:=Tryz.zeroValue245
 t173:=Tryz.underlying247
 a173:=Tryz.isAgg247
 z173:=Tryz.sizeOf247
 v173:=Tryz.zeroValue247
 t212:=Tryz.underlying266
 a212:=Tryz.isAgg266
 z212:=Tryz.sizeOf266
 v212:=Tryz.zeroValue266
 t213:=Tryz.underlying267
 a213:=Tryz.isAgg267
 z213:=Tryz.sizeOf267
 t232:=Tryz.underlying282
 a232:=Tryz.isAgg282
 z232:=Tryz.sizeOf282
 v232:=Tryz.zeroValue282
 t233:=Tryz.underlying283
 a233:=Tryz.isAgg283
 z233:=Tryz.sizeOf283
 v233:=Tryz.zeroValue283
 g17:=by kernel_rfl
 g18:=by kernel_rfl
 g19:=by kernel_rfl
 i0:=by kernel_rfl
 i2:=by kernel_rfl
 i3:=by kernel_rfl
 i4:=by kernel_rfl
 i5:=by kernel_rfl
 i9:=by kernel_rfl
 i20:=by kernel_rfl
 i37:=by kernel_rfl
 i46:=by kernel_rfl
 i51:=by kernel_rfl
 i53:=by kernel_rfl
 i171:=by kernel_rfl
 i173:=by kernel_rfl
 i212:=by kernel_rfl
 i232:=by kernel_rfl
 i233:=by kernel_rfl
 m17:=by kernel_rfl
 m18:=by kernel_rfl
 m19:=by kernel_rfl }
end Go.Proofs
end
section
namespace Su
noncomputable section
open Go Go.Proofs Fly
theorem idxL_eq(c:UInt8):∀l,Lib.indexByte l c=idxL c l
 | []=>rfl
 | b::l=>by
  unfold Lib.indexByte idxL;rw[idxL_eq c l];cases b == c with
  | true=>rfl
  | false=>
   simp only[qh];by_cases h:idxL c l = -1
   · simp[h]
   · simp[h]
def tIdx_p:PrimD:=prim (dc cS (d1 (cI .u8))) (d1 (cI .i64)) tIdx_s
theorem same_world{V:View}{w:World}(hs:Seen V w):Holds ⟨keys [],w,V,fun _ _ _=>False⟩ V [] w :=
 ⟨Ext.refl _ _,hs,(fun p hp=>by cases hp),(fun p hp=>by cases hp),.nil,Sub.refl _,fun r h0 hr=>absurd h0 hr⟩
theorem tIdx_c:OkT 125 tIdx_p:=by
 refine⟨by kernel_rfl,fun xs y h V vs _ hr=>?_,fun j hj=>nomatch hj⟩
 obtain⟨p,h1,h2⟩:=osm (show((dc cS (d1 (cI .u8))).dec xs).bind tIdx_s=some y from h)
 have hr2:=(dc cS (d1 (cI .u8))).rep h1 hr
 have hg:=(dc cS (d1 (cI .u8))).rng hr2
 obtain⟨s,c⟩:=p;have:=soi h2;subst this
 cases hr2 with | cons k1 k2=>
 cases k2 with | cons k2 k3=>
 cases k3 with | nil=>
 cases k1 with | s k1=>
 cases k2 with | s k2=>
 intro w hs _ _ _;refine(Any.strings_IndexByte Tryz.idxB s c w).mono ?_
 rintro e w' ⟨rfl,rfl⟩
 refine⟨_,V,[],rfl,same_world hs,[_],.cons (.s (v:=.int .i64 (idxL (UInt8.ofNat c.toNat) (lb s))) ?_) .nil,?_⟩
 · have hl:s.size≤maxLen:=hg.1
   have:=idxL_lo (UInt8.ofNat c.toNat) (lb s)
   have e:(lb s).length=s.size:=by unfold lb;rw[jG];rfl
   rw[maxLen_eq]at hl;exact inR_i64.2 ⟨by omega,by omega⟩
 · rw[idxL_eq];rfl
theorem dec_dg:∀n,Lib.decDigits n=dg n:=by
 intro n;induction n using Nat.strongRecOn with
 | ind n ih=>
  unfold Lib.decDigits;by_cases h:n<10
  · rw[dif_pos h,dg_lt h]
  · rw[dif_neg h,dg_ge (by omega),ih (n / 10) (by omega)]
theorem itT_eq(n:Int):Lib.itoa n=itT n:=by
 unfold Lib.itoa itT;rw[dec_dg,dec_dg];by_cases h:n<0
 · rw[qU h,qc h];rfl
 · rw[qM h,qm h];rfl
def tIt_p:PrimD:=prim (d1 (cI .i64)) (d1 cS) tIt_s
theorem tab_vals{V:View}:∀ {l:List Nat} {vs:List Value},RepA V (l.map fun z=>T.s (.int .u64 ((z:Nat):Int))) vs→vs=l.map fun z=>Value.int .u64 ((z:Nat):Int)
 | [],_,.nil=>rfl
 | z::l,_,.cons h h'=>by
  cases h with | s h=>
  rw[j4,tab_vals h']
theorem tab_is{V:View}{w:World}(hg:GOK tb V)(hs:Seen V w):Lib.TabIs Tryz.prog w "internal/strconv.uint64pow10" .u64 Lib.pow10Tab:=by
 obtain⟨h1,arr,e,f,h2,h3⟩:=hg 4 gT4 rfl
 unfold Lib.TabIs World.var?
 rw[show Tryz.prog.globalNamed "internal/strconv.uint64pow10"=some 4 by kernel_rfl,qf];show(match w.heap[4]? with | some (.cells cs _ _)=>some cs | _=>none)=_
 rw[hs _ _ h2];have hv:arr.toList=[1,10,100,1000,10000,100000,1000000,10000000,100000000,1000000000,10000000000,100000000000,1000000000000,10000000000000,100000000000000,1000000000000000,10000000000000000,100000000000000000,1000000000000000000,10000000000000000000].map fun z:Nat=>Value.int .u64 ((z:Nat):Int):=by
  cases h1 with
  | pt k1 k2 k3=>
   rename_i vs;have hvs:=tab_vals (l:=[1,10,100,1000,10000,100000,1000000,10000000,100000000,1000000000,10000000000,100000000000,1000000000000,10000000000000,100000000000000,1000000000000000,10000000000000000,100000000000000000,1000000000000000000,10000000000000000000]) k1
   rw[← hvs];have hl:vs.length=20:=by rw[hvs];rfl
   have hsz:arr.toList.length=20:=by rw[jG];exact h3
   refine List.ext_getElem? fun j=>?_
   by_cases hj:j<20
   · obtain⟨arr',e',f',q1,q2⟩:=k3 j vs[j] (qu (by omega))
     rw[h2]at q1;simp only[qa,Obj.cells.injEq]at q1;obtain⟨rfl,_⟩:=q1;rw[qu (show j<vs.length by omega),← q2,qF];simp
   · rw[ja (by omega),ja (by omega)]
 have:arr=(Lib.pow10Tab.map fun z=>Value.int .u64 z).toArray:=by
  apply Array.toList_inj.1
  rw[hv];rfl
 rw[this]
theorem grow_ok{V:View}{w:World}(hs:Seen V w)(k:Nat)(os:Array Obj):Holds ⟨keys [],w,V,fun _ _ _=>False⟩ V [] (Go.Sort.grow (w.drewN k) os):=by
 have hh:(Go.Sort.grow (w.drewN k) os).heap=w.heap++os:=rfl
 refine⟨⟨rfl,rfl,rfl,by rw[hh];simp,fun i hi _=>?_⟩,fun r o hr=>?_,(fun p hp=>by cases hp),(fun p hp=>by cases hp),.nil,Sub.refl _,fun r h0 hr=>absurd h0 hr⟩
 · rw[hh,yR hi]
 · have:=hs r o hr
   rw[hh,yR (qX.1 this).1];exact this
theorem tIt_c:OkT 94 tIt_p:=by
 refine⟨by kernel_rfl,fun xs y h V vs hgk hr=>?_,fun j hj=>nomatch hj⟩
 obtain⟨n,h1,h2⟩:=osm (show((d1 (cI .i64)).dec xs).bind tIt_s=some y from h)
 have hr2:=(d1 (cI .i64)).rep h1 hr
 obtain⟨h3,h4⟩:=bif_some h2;have:=soi h4;subst this
 simp only[qk,qE]at h3;cases hr2 with | cons k1 k2=>
 cases k2 with | nil=>
 cases k1 with | s k1=>
 intro w hs _ _ _;refine(Any.strconv_Itoa Tryz.itoa n (by omega) (by omega) w (tab_is hgk hs)).mono ?_
 rintro e w' ⟨rfl,k,os,rfl⟩
 refine⟨_,V,[],rfl,grow_ok hs k os,[_],.cons (.s (v:=.string (bs (itT n))) ?_) .nil,?_⟩
 · refine qo ?_
   show(bs (itT n)).size≤maxLen
   have:=itT_len h3.1 h3.2
   rw[bs_size,maxLen_eq];omega
 · rw[itT_eq];rfl
end
end Su
end
section
namespace Su
noncomputable section
open Go Go.Proofs Fly
set_option maxRecDepth 100000
theorem tRep_run:(List.range 41).map (fun k=>shFn tb pr_T06 (shN tb pr_T06 9 9) 9 102 ((dc (cK (bs [48])) (d1 (cI .i64))).enc ((),((k:Nat):Int))) (d1 cS).dec)=(List.range 41).map fun k=>some (bs (zs k)):=by kernel_rfl
def tRep_p:PrimD:=prim (dc (cK (bs [48])) (d1 (cI .i64))) (d1 cS) tRep_s
theorem tRep_c:OkT 102 tRep_p:=prim_ok k_ok pr_T06_ok (by kernel_rfl) fun a y hg h=>by
 obtain⟨u,n⟩:=a;obtain⟨h1,h2⟩:=bif_some h;have:=soi h2;subst this
 simp only[qk,qE]at h1;obtain⟨k,rfl⟩:=yi h1.1;exact⟨9,9,9,List.map_inj_left.1 tRep_run k (List.mem_range.2 (by omega))⟩
def pr_T07:Prims:=extL [(125,tIdx_p),(94,tIt_p),(102,tRep_p)] pr_T06
theorem pr_T07_ok:PkT pr_T07:=extL_ok pr_T06_ok (ok_cons tIdx_c (ok_cons tIt_c (ok_cons tRep_c ok_nil)))
end
end Su
end
section
namespace Su
noncomputable section
open Go Go.Proofs Fly
set_option maxRecDepth 100000
def dTen_p:PrimD:=prim (d1 (cI .i64)) (d1 (cQ 1 1)) (dTen_s)
theorem dTen_c:OkT 51 dTen_p:=specL k_ok pr_T07_ok (fun a=>dTen a) (by kernel_rfl) (fun _ _=>by kernel_rfl) dTen_ok
def dTr_p:PrimD:=prim (dc cS (d1 (cI .i64))) (dc cS (d1 (cI .i64))) (dTr_s)
theorem dTr_c:OkT 53 dTr_p:=specL k_ok pr_T07_ok (fun a=>dTr a.1 a.2) (by kernel_rfl) (fun _ _=>by kernel_rfl) dTr_ok
def pr_T08:Prims:=extL [(51,dTen_p),(53,dTr_p)] pr_T07
theorem pr_T08_ok:PkT pr_T08:=extL_ok pr_T07_ok (ok_cons dTen_c (ok_cons dTr_c ok_nil))
end
end Su
end
section
namespace Su
noncomputable section
open Go Go.Proofs Fly
set_option maxRecDepth 100000
def dOf_p:PrimD:=prim (d1 (cI .u64)) (d1 (cA (dc (cQ 1 1) (d1 (cQ 1 1))))) (fun a=>dOf a)
theorem dOf_c:OkT 47 dOf_p:=fnL k_ok pr_T08_ok (by kernel_rfl) (fun _ _=>by kernel_rfl)
def dNear_p:PrimD:=prim (dc (cA (dc (cQ 1 1) (d1 (cQ 1 1)))) (d1 (cI .i64))) (d1 (cA (dc (cQ 1 1) (d1 (cQ 1 1))))) (fun a=>dNear a.1 a.2)
theorem dNear_c:OkT 52 dNear_p:=fnL k_ok pr_T08_ok (by kernel_rfl) (fun _ _=>by kernel_rfl)
def pr_T09:Prims:=extL [(47,dOf_p),(52,dNear_p)] pr_T08
theorem pr_T09_ok:PkT pr_T09:=extL_ok pr_T08_ok (ok_cons dOf_c (ok_cons dNear_c ok_nil))
end
end Su
end
section
namespace Su
noncomputable section
open Go Go.Proofs Fly
set_option maxRecDepth 100000
def dDig_p:PrimD:=prim (d1 (cI .u64)) (dc cS (d1 (cI .i64))) (dDig_s)
theorem dDig_c:OkT 13 dDig_p:=loopL k_ok pr_T09_ok (fun fu a=>dDig fu a) (by kernel_rfl) (fun _ _=>by kernel_rfl) dDig_ok
def pr_T10:Prims:=extL [(13,dDig_p)] pr_T09
theorem pr_T10_ok:PkT pr_T10:=extL_ok pr_T09_ok (ok_cons dDig_c ok_nil)
end
end Su
end
section
namespace Su
noncomputable section
open Go Go.Proofs Fly
set_option maxRecDepth 100000
def qParts_p:PrimD:=prim (d1 (cI .u64)) (dc cB (dc (cI .i64) (d1 (cI .u64)))) (qParts_s)
theorem qParts_c:OkT 55 qParts_p:=specL k_ok pr_T10_ok (fun a=>qParts a) (by kernel_rfl) (fun _ _=>by kernel_rfl) qParts_ok
def qClass_p:PrimD:=prim (d1 (cI .u64)) (d1 (cI .u8)) (qClass_s)
theorem qClass_c:OkT 14 qClass_p:=specL k_ok pr_T10_ok (fun a=>qClass a) (by kernel_rfl) (fun _ _=>by kernel_rfl) qClass_ok
def pr_T11:Prims:=extL [(55,qParts_p),(14,qClass_p)] pr_T10
theorem pr_T11_ok:PkT pr_T11:=extL_ok pr_T10_ok (ok_cons qParts_c (ok_cons qClass_c ok_nil))
end
end Su
end
section
namespace Su
noncomputable section
open Go Go.Proofs Fly
set_option maxRecDepth 100000
def dForm_p:PrimD:=prim (dc cS (d1 (cI .i64))) (d1 cS) (dForm_s)
theorem dForm_c:OkT 46 dForm_p:=specL k_ok pr_T11_ok (fun a=>dForm a.1 a.2) (by kernel_rfl) (fun _ _=>by kernel_rfl) dForm_ok
def pr_T12:Prims:=extL [(46,dForm_p)] pr_T11
theorem pr_T12_ok:PkT pr_T12:=extL_ok pr_T11_ok (ok_cons dForm_c ok_nil)
end
end Su
end
section
namespace Su
noncomputable section
open Go Go.Proofs Fly
set_option maxRecDepth 100000
def rForm_p:PrimD:=prim (dc cS (d1 (cI .i64))) (d1 cS) (rForm_s)
theorem rForm_c:OkT 15 rForm_p:=specL k_ok pr_T12_ok (fun a=>rForm a.1 a.2) (by kernel_rfl) (fun _ _=>by kernel_rfl) rForm_ok
def dPrint_p:PrimD:=prim (d1 (cI .u64)) (d1 cS) (dPrint_s)
theorem dPrint_c:OkT 12 dPrint_p:=specL k_ok pr_T12_ok (fun a=>dPrint a) (by kernel_rfl) (fun _ _=>by kernel_rfl) dPrint_ok
def pr_T13:Prims:=extL [(15,rForm_p),(12,dPrint_p)] pr_T12
theorem pr_T13_ok:PkT pr_T13:=extL_ok pr_T12_ok (ok_cons rForm_c (ok_cons dPrint_c ok_nil))
end
end Su
end
section
namespace Su
noncomputable section
open Go Go.Proofs Fly
set_option maxRecDepth 100000
def frcK{α:Type}(n:Nat)(k:Nat→α):α:=Nat.rec (motive:=fun _=>α) (k 0) (fun m _=>k (m+1)) n
theorem frcK_eq{α:Type}(n:Nat)(k:Nat→α):frcK n k=k n:=by cases n <;> rfl
def rFracO(p:Bool×List Int×List Int×Int):Option (Int×Int) :=
 frcK (valN p.2.1) fun N=>frcK (valN p.2.2.1) fun D=>
 bif Nat.beq N 0||Nat.beq D 0 then(bif Nat.ble (blen N) 100000&&Nat.ble (blen D) 100000 then some (0,0)else none)else
 bif((Nat.ble p.2.1.length 100000&&Nat.ble p.2.2.1.length 100000)&&(Nat.ble (blen N) 40000&&Nat.ble (blen D) 40000))&&(decide (-4000≤fracE N D)&&decide (fracE N D≤4000))then
  frcK (fracM N D) fun M=>frcK (fracE N D+6000).toNat fun E=>frcK (RN p.1 p.2.2.2 M E (fracR N D)) fun r=>some (((r:Nat):Int),fracF p.1 p.2.2.2 N D)
 else none
theorem rFracO_eq:rFracO=rFrac_s:=by
 funext p
 unfold rFracO rFrac_s;simp only[frcK_eq,fracV_eq]
def rFracW:PrimD:=prim (dc cB (dc (cQ 1 1) (dc (cQ 1 1) (d1 (cI .u8))))) (dc (cI .u64) (d1 (cI .u8))) rFracO
theorem rFracW_c:OkT 50 rFracW:=by unfold rFracW;rw[rFracO_eq];exact rFrac_c
def ShlO(p:List Int×Int):Option (List Int×Int):=bif Nat.ble p.1.length 1000000 then some (shlV' (valN p.1) (max p.2 0).toNat)else none
theorem ShlO_eq:ShlO=Shl_s:=by
 funext p
 unfold ShlO Shl_s;rw[okS_eq,shlV_eq]
def ShlW:PrimD:=prim (dc (cQ 1 1) (d1 (cI .i64))) (dc (cQ 1 1) (d1 (cI .i64))) ShlO
theorem ShlW_c:OkT 104 ShlW:=by unfold ShlW;rw[ShlO_eq];exact Shl_c
def prW:Prims:=extL [(50,rFracW),(104,ShlW)] pr_T07
theorem prW_ok:PkT prW:=extL_ok pr_T07_ok (ok_cons rFracW_c (ok_cons ShlW_c ok_nil))
theorem works08_run:shFn tb prW (shN tb prW 400 9) 400 11 [] (d1 cB).dec=some true:=by kernel_rfl
def works08_p:PrimD:=prim d0 (d1 cB) fun _=>some true
theorem works08_c:OkT 11 works08_p:=prim_ok k_ok prW_ok (by kernel_rfl) fun a y hg h=>⟨400,9,400,works08_run.trans h⟩
def pr_W08:Prims:=extL [(11,works08_p)] pr_T13
theorem pr_W08_ok:PkT pr_W08:=extL_ok pr_T13_ok (ok_cons works08_c ok_nil)
end
end Su
end
section
namespace Su
noncomputable section
open Go Go.Proofs Fly
set_option maxRecDepth 100000
def dPts_p:PrimD:=prim (d1 cS) (dc cS (dc (cI .i64) (d1 cB))) (dPts_s)
theorem dPts_c:OkT 59 dPts_p:=loopL k_ok pr_W08_ok (fun fu a=>dPts fu a) (by kernel_rfl) (fun _ _=>by kernel_rfl) dPts_ok
def pr_T14:Prims:=extL [(59,dPts_p)] pr_W08
theorem pr_T14_ok:PkT pr_T14:=extL_ok pr_W08_ok (ok_cons dPts_c ok_nil)
end
end Su
end
section
namespace Su
noncomputable section
open Go Go.Proofs Fly
set_option maxRecDepth 100000
def dPar_p:PrimD:=prim (d1 cS) (dc (cI .u64) (d1 (cI .i64))) (dPar_s)
theorem dPar_c:OkT 17 dPar_p:=specL k_ok pr_T14_ok (fun a=>dPar a) (by kernel_rfl) (fun _ _=>by kernel_rfl) dPar_ok
def pr_T15:Prims:=extL [(17,dPar_p)] pr_T14
theorem pr_T15_ok:PkT pr_T15:=extL_ok pr_T14_ok (ok_cons dPar_c ok_nil)
end
end Su
end
section
namespace Su
noncomputable section
open Go Go.Proofs Fly
set_option maxRecDepth 100000
def Low_p:PrimD:=prim (dc cB (dc (cQ 1 1) (d1 (cQ 1 1)))) (d1 cRt) (Low_s)
theorem Low_c:OkT 68 Low_p:=specL k_ok pr_T15_ok (fun a=>Low a.1 a.2.1 a.2.2) (by kernel_rfl) (fun _ _=>by kernel_rfl) Low_ok
def pr_T16:Prims:=extL [(68,Low_p)] pr_T15
theorem pr_T16_ok:PkT pr_T16:=extL_ok pr_T15_ok (ok_cons Low_c ok_nil)
end
end Su
end
section
namespace Su
noncomputable section
open Go Go.Proofs Fly
set_option maxRecDepth 100000
def RLow_p:PrimD:=prim (d1 cRt) (d1 cRt) (RLow_s)
theorem RLow_c:OkT 123 RLow_p:=specL k_ok pr_T16_ok (fun a=>RLow a) (by kernel_rfl) (fun _ _=>by kernel_rfl) RLow_ok
def RInt_p:PrimD:=prim (d1 (cI .i64)) (d1 cRt) (RInt_s)
theorem RInt_c:OkT 65 RInt_p:=specL k_ok pr_T16_ok (fun a=>RInt a) (by kernel_rfl) (fun _ _=>by kernel_rfl) RInt_ok
def pr_T17:Prims:=extL [(123,RLow_p),(65,RInt_p)] pr_T16
theorem pr_T17_ok:PkT pr_T17:=extL_ok pr_T16_ok (ok_cons RLow_c (ok_cons RInt_c ok_nil))
end
end Su
end
section
namespace Su
noncomputable section
open Go Go.Proofs Fly
set_option maxRecDepth 100000
def rNew_p:PrimD:=prim (dc cB (dc (cQ 1 1) (d1 (cQ 1 1)))) (dc cRt (d1 (cI .i64))) (rNew_s)
theorem rNew_c:OkT 23 rNew_p:=specL k_ok pr_T17_ok (fun a=>rNew a.1 a.2.1 a.2.2) (by kernel_rfl) (fun _ _=>by kernel_rfl) rNew_ok
def rTxt_p:PrimD:=prim (d1 cRt) (d1 cS) (rTxt_s)
theorem rTxt_c:OkT 66 rTxt_p:=specL k_ok pr_T17_ok (fun a=>rTxt a) (by kernel_rfl) (fun _ _=>by kernel_rfl) rTxt_ok
def rExa_p:PrimD:=prim (dc cRt (d1 (cI .u8))) (dc (cI .u64) (d1 (cI .u8))) (rExa_s)
theorem rExa_c:OkT 25 rExa_p:=specL k_ok pr_T17_ok (fun a=>rExa a.1 a.2) (by kernel_rfl) (fun _ _=>by kernel_rfl) rExa_ok
def pr_T18:Prims:=extL [(23,rNew_p),(66,rTxt_p),(25,rExa_p)] pr_T17
theorem pr_T18_ok:PkT pr_T18:=extL_ok pr_T17_ok (ok_cons rNew_c (ok_cons rTxt_c (ok_cons rExa_c ok_nil)))
end
end Su
end
section
namespace Su
open Go Go.Proofs Fly
set_option maxRecDepth 100000
noncomputable def lExa_p:PrimD:=prim (dc cS (d1 (cI .i64))) (d1 cB) (lExa_s)
theorem lExa_c:OkT 5 lExa_p:=specL k_ok pr_T18_ok (fun a=>lExa a.1 a.2) (by kernel_rfl) (fun _ _=>by kernel_rfl) lExa_ok
end Su
end
