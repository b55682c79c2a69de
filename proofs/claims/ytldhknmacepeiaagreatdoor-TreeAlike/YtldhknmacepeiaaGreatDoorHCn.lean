/-
  The law and its row.
-/
import Derived.Test.YtldhknmacepeiaaGreatDoorHSh2
import Derived.Test.YtldhknmacepeiaaGreatDoorNB06
import Derived.Test.YtldhknmacepeiaaGreatDoorNB09
import Derived.Test.YtldhknmacepeiaaGreatDoorSuTb
import Derived.Test.YtldhknmacepeiaaGreatDoorNB10
import Derived.Test.YtldhknmacepeiaaGreatDoorNC10
import Derived.Test.YtldhknmacepeiaaGreatDoorNT05
import Derived.Test.YtldhknmacepeiaaGreatDoorTra
import Derived.Test.YtldhknmacepeiaaGreatDoorRfd
import Derived.Test.YtldhknmacepeiaaGreatDoorNT12
import Derived.Test.YtldhknmacepeiaaGreatDoorNT13
import Derived.Test.YtldhknmacepeiaaGreatDoorTrK
import Derived.Test.YtldhknmacepeiaaGreatDoorTrTb
set_option linter.unusedVariables false
set_option linter.unusedSimpArgs false
set_option maxRecDepth 10000
section
namespace Fly
open Go Go.Proofs Su
set_option maxRecDepth 10000
noncomputable def tbN:Tabs Tryz.prog:=Su.qlH.sound.tb
section
variable {P:Program} {n:Nat} {X:Cx} {L:Lo} {V:qa} {G:Own} {Q:Value→qa→Own→Prop}
variable {ty:TypeId} {pos:String} {af:Array Edge} {gd:Option (Nat×Bool)} {ds:Option Tmp}
theorem qhK{t e:TypeId}{a:Option Addr}{len cap:Nat}(hu:P.underlying t=some (.slice e))(w:World):(Op.equal t (.slice a len cap) (.slice none 0 0)).run P w = .ok a.isNone w:=by
 show(Op.equalIn (9999+1) t (.slice a len cap) (.slice none 0 0)).run P w=_
 unfold Op.equalIn;rw[Sem.run_bind,Fly.run_underlying hu];cases a <;> rfl
theorem qe8{t u e:TypeId}{x y:Operand}{a:Option Addr}{len cap:Nat}(hx:ev L x=some (.slice a len cap))(hy:ev L y=some (.slice none 0 0))(hu:P.underlying t=some (.slice e))(k:Q (.bool a.isNone) V G) :
 Opr P n X L V G ⟨ds,.binOp .eql t x y u,ty,pos,af,gd⟩ Q:=qgP hx hy rfl (fun w=>by simp[eqGuard]) (qhK hu) k
end
attribute [local irreducible] WC WE WR Opr St Go.Calls Js QE jC Rel jl Jk Qj Owe One QS Go.CallsD
theorem qwE{V:qa}{len cap:Nat}{Q:Value→qa→Own→Prop}(hQ:Q (.slice none 0 0) V []):jl Tryz.prog 157 #[.slice none len cap] V [] Q:=by
 refine qB (args:=[_]) Tryz.func157 rfl Tryz.ntmps157 rfl ?_
 intro X w hM hb hw hV0 hR;dsimp only[je,Nat.zero_add,Nat.reduceAdd]
 (repeat' (first | refine qq ?_ | refine qc ?_ | refine qo ?_ | refine qh ?_ | refine qz ?_ | refine qG ?_ | refine jg ?_ | refine jm ?_ | refine qF ?_ | refine qD ?_ | refine QX rfl ?_ | refine qP ?_ | refine qT ?_ | ((first | refine qn rfl ?_ | refine jt ?_ | refine yh rfl rfl rfl ?_);(first | (refine qe8 (e:=105) rfl rfl (by kernel_rfl) ?_) | refine qk rfl ?_ | refine qm rfl ?_ | refine jJ rfl rfl ?_ | refine Y3 rfl rfl ?_ | refine jx rfl rfl ?_ | refine Qs rfl rfl ?_ | refine JO rfl rfl ?_ | refine qb6 rfl rfl ?_ | refine Qt rfl rfl ?_ | refine Qe rfl ?_ | refine qK rfl rfl ?_ | refine qL rfl rfl ?_ | refine jD rfl rfl (by omega) (by omega) ?_ | refine QD rfl rfl (by omega) (by omega) ?_ | refine qbg rfl rfl (by omega) (by omega) ?_ | refine Yu rfl rfl ?_ | refine ZD rfl rfl ?_ | refine qaN rfl rfl ?_ | refine qf tbN rfl rfl ?_ | refine QY tbN rfl rfl rfl ?_ | refine qb4 rfl rfl ?_ | refine qfv rfl rfl ?_ | refine qb5 rfl rfl ?_ | refine JJ rfl rfl ?_ | refine qb7 rfl rfl (by decide) ?_ | refine qb8 rfl rfl (by decide) ?_ | refine Yx rfl rfl ?_ | refine Y9 rfl rfl ?_ | refine Za rfl rfl (by kernel_rfl) ?_ | refine ZM rfl rfl (by kernel_rfl) ?_ | refine Qu tbN rfl rfl rfl ?_ | refine qb9 rfl ?_ | refine yw tbN rfl rfl rfl ?_ | (apply qu tbN rfl rfl;(· (first | (refine At.own (?_);repeat (first | exact Has.here | refine Has.there ?_)) | exact At.seen (by assumption)));(· exact rfl)) | (apply qQ tbN rfl rfl;(· (first | (refine At.own (?_);repeat (first | exact Has.here | refine Has.there ?_)) | exact At.seen (by assumption)));(· exact rfl)) | (apply jz tbN rfl rfl rfl rfl rfl;(· (repeat (first | exact Upd.here | apply Upd.there)));(· exact rfl)) | (apply yn tbN rfl rfl rfl rfl rfl;(· (repeat (first | exact Upd.here | apply Upd.there)));(· exact rfl)) | (apply yK tbN (by kernel_rfl) rfl (rfl:tbN.fo _ 0=_);(· (repeat (first | exact Fill.nil | (apply Fill.cons;(· exact rfl);(· exact rfl);(· exact rfl);(· exact rfl);(· exact rfl)))))) | (refine qO rfl ?_;intro b) | (refine Y4 rfl rfl ?_;intro b) | (refine jX tbN rfl ?_;intro b) | (apply j7 tbN;(· exact rfl);(· exact rfl);(· exact rfl);(· decide);(· (repeat (first | exact Cat.nil | (apply Cat.cons;(· exact rfl);(· exact rfl);(· exact rfl)) | exact App.nil | apply App.cons)));intro b))) | refine Qr rfl rfl rfl rfl ?_ | refine qS rfl ?_ | refine qC rfl ?_ | refine jW rfl (fun _=>?_) (fun _=>?_) | refine ZC rfl (fun _=>?_) (fun _=>?_) | refine jp rfl rfl (fun _=>?_) (fun _=>?_) | refine ZH rfl rfl (fun _=>?_) (fun _=>?_) | refine Yk rfl (fun _=>?_) (fun _=>?_) | refine qct rfl (fun _=>?_) (fun _=>?_) | refine YJ rfl rfl (fun _=>?_) (fun _=>?_) | refine Jj rfl rfl (fun _=>?_) (fun _=>?_)))
 exact QF hM hw hV0 hR [] (Ks _) (yy rfl rfl) hQ
theorem qwF{V:qa}{a:Addr}{cap:Nat}{Q:Value→qa→Own→Prop}(hQ:∀b,Q (.slice (some ⟨b,0,none⟩) 0 0) V [(b,.cells #[] 105 (0,0))]):jl Tryz.prog 157 #[.slice (some a) 0 cap] V [] Q:=by
 refine qB (args:=[_]) Tryz.func157 rfl Tryz.ntmps157 rfl ?_
 intro X w hM hb hw hV0 hR;dsimp only[je,Nat.zero_add,Nat.reduceAdd]
 (repeat' (first | refine qq ?_ | refine qc ?_ | refine qo ?_ | refine qh ?_ | refine qz ?_ | refine qG ?_ | refine jg ?_ | refine jm ?_ | refine qF ?_ | refine qD ?_ | refine QX rfl ?_ | refine qP ?_ | refine qT ?_ | ((first | refine qn rfl ?_ | refine jt ?_ | refine yh rfl rfl rfl ?_);(first | (refine qe8 (e:=105) rfl rfl (by kernel_rfl) ?_) | refine qk rfl ?_ | refine qm rfl ?_ | refine jJ rfl rfl ?_ | refine Y3 rfl rfl ?_ | refine jx rfl rfl ?_ | refine Qs rfl rfl ?_ | refine JO rfl rfl ?_ | refine qb6 rfl rfl ?_ | refine Qt rfl rfl ?_ | refine Qe rfl ?_ | refine qK rfl rfl ?_ | refine qL rfl rfl ?_ | refine jD rfl rfl (by omega) (by omega) ?_ | refine QD rfl rfl (by omega) (by omega) ?_ | refine qbg rfl rfl (by omega) (by omega) ?_ | refine Yu rfl rfl ?_ | refine ZD rfl rfl ?_ | refine qaN rfl rfl ?_ | refine qf tbN rfl rfl ?_ | refine QY tbN rfl rfl rfl ?_ | refine qb4 rfl rfl ?_ | refine qfv rfl rfl ?_ | refine qb5 rfl rfl ?_ | refine JJ rfl rfl ?_ | refine qb7 rfl rfl (by decide) ?_ | refine qb8 rfl rfl (by decide) ?_ | refine Yx rfl rfl ?_ | refine Y9 rfl rfl ?_ | refine Za rfl rfl (by kernel_rfl) ?_ | refine ZM rfl rfl (by kernel_rfl) ?_ | refine Qu tbN rfl rfl rfl ?_ | refine qb9 rfl ?_ | refine yw tbN rfl rfl rfl ?_ | (apply qu tbN rfl rfl;(· (first | (refine At.own (?_);repeat (first | exact Has.here | refine Has.there ?_)) | exact At.seen (by assumption)));(· exact rfl)) | (apply qQ tbN rfl rfl;(· (first | (refine At.own (?_);repeat (first | exact Has.here | refine Has.there ?_)) | exact At.seen (by assumption)));(· exact rfl)) | (apply jz tbN rfl rfl rfl rfl rfl;(· (repeat (first | exact Upd.here | apply Upd.there)));(· exact rfl)) | (apply yn tbN rfl rfl rfl rfl rfl;(· (repeat (first | exact Upd.here | apply Upd.there)));(· exact rfl)) | (apply yK tbN (by kernel_rfl) rfl (rfl:tbN.fo _ 0=_);(· (repeat (first | exact Fill.nil | (apply Fill.cons;(· exact rfl);(· exact rfl);(· exact rfl);(· exact rfl);(· exact rfl)))))) | (refine qO rfl ?_;intro b) | (refine Y4 rfl rfl ?_;intro b) | (refine jX tbN rfl ?_;intro b) | (apply j7 tbN;(· exact rfl);(· exact rfl);(· exact rfl);(· decide);(· (repeat (first | exact Cat.nil | (apply Cat.cons;(· exact rfl);(· exact rfl);(· exact rfl)) | exact App.nil | apply App.cons)));intro b))) | refine Qr rfl rfl rfl rfl ?_ | refine qS rfl ?_ | refine qC rfl ?_ | refine jW rfl (fun _=>?_) (fun _=>?_) | refine ZC rfl (fun _=>?_) (fun _=>?_) | refine jp rfl rfl (fun _=>?_) (fun _=>?_) | refine ZH rfl rfl (fun _=>?_) (fun _=>?_) | refine Yk rfl (fun _=>?_) (fun _=>?_) | refine qct rfl (fun _=>?_) (fun _=>?_) | refine YJ rfl rfl (fun _=>?_) (fun _=>?_) | refine Jj rfl rfl (fun _=>?_) (fun _=>?_)))
 refine qn rfl (qaY (e:=105) (k:=1) tbN rfl rfl rfl (zJ 0) ?_)
 (repeat' (first | refine qq ?_ | refine qc ?_ | refine qo ?_ | refine qh ?_ | refine qz ?_ | refine qG ?_ | refine jg ?_ | refine jm ?_ | refine qF ?_ | refine qD ?_ | refine QX rfl ?_ | refine qP ?_ | refine qT ?_ | ((first | refine qn rfl ?_ | refine jt ?_ | refine yh rfl rfl rfl ?_);(first | refine qk rfl ?_ | refine qm rfl ?_ | refine jJ rfl rfl ?_ | refine Y3 rfl rfl ?_ | refine jx rfl rfl ?_ | refine Qs rfl rfl ?_ | refine JO rfl rfl ?_ | refine qb6 rfl rfl ?_ | refine Qt rfl rfl ?_ | refine Qe rfl ?_ | refine qK rfl rfl ?_ | refine qL rfl rfl ?_ | refine jD rfl rfl (by omega) (by omega) ?_ | refine QD rfl rfl (by omega) (by omega) ?_ | refine qbg rfl rfl (by omega) (by omega) ?_ | refine Yu rfl rfl ?_ | refine ZD rfl rfl ?_ | refine qaN rfl rfl ?_ | refine qf tbN rfl rfl ?_ | refine QY tbN rfl rfl rfl ?_ | refine qb4 rfl rfl ?_ | refine qfv rfl rfl ?_ | refine qb5 rfl rfl ?_ | refine JJ rfl rfl ?_ | refine qb7 rfl rfl (by decide) ?_ | refine qb8 rfl rfl (by decide) ?_ | refine Yx rfl rfl ?_ | refine Y9 rfl rfl ?_ | refine Za rfl rfl (by kernel_rfl) ?_ | refine ZM rfl rfl (by kernel_rfl) ?_ | refine Qu tbN rfl rfl rfl ?_ | refine qb9 rfl ?_ | refine yw tbN rfl rfl rfl ?_ | (apply qu tbN rfl rfl;(· (first | (refine At.own (?_);repeat (first | exact Has.here | refine Has.there ?_)) | exact At.seen (by assumption)));(· exact rfl)) | (apply qQ tbN rfl rfl;(· (first | (refine At.own (?_);repeat (first | exact Has.here | refine Has.there ?_)) | exact At.seen (by assumption)));(· exact rfl)) | (apply jz tbN rfl rfl rfl rfl rfl;(· (repeat (first | exact Upd.here | apply Upd.there)));(· exact rfl)) | (apply yn tbN rfl rfl rfl rfl rfl;(· (repeat (first | exact Upd.here | apply Upd.there)));(· exact rfl)) | (apply yK tbN (by kernel_rfl) rfl (rfl:tbN.fo _ 0=_);(· (repeat (first | exact Fill.nil | (apply Fill.cons;(· exact rfl);(· exact rfl);(· exact rfl);(· exact rfl);(· exact rfl)))))) | (refine qO rfl ?_;intro b) | (refine Y4 rfl rfl ?_;intro b) | (refine jX tbN rfl ?_;intro b) | (apply j7 tbN;(· exact rfl);(· exact rfl);(· exact rfl);(· decide);(· (repeat (first | exact Cat.nil | (apply Cat.cons;(· exact rfl);(· exact rfl);(· exact rfl)) | exact App.nil | apply App.cons)));intro b))) | refine Qr rfl rfl rfl rfl ?_ | refine qS rfl ?_ | refine qC rfl ?_ | refine jW rfl (fun _=>?_) (fun _=>?_) | refine ZC rfl (fun _=>?_) (fun _=>?_) | refine jp rfl rfl (fun _=>?_) (fun _=>?_) | refine ZH rfl rfl (fun _=>?_) (fun _=>?_) | refine Yk rfl (fun _=>?_) (fun _=>?_) | refine qct rfl (fun _=>?_) (fun _=>?_) | refine YJ rfl rfl (fun _=>?_) (fun _=>?_) | refine Jj rfl rfl (fun _=>?_) (fun _=>?_)))
 exact QF hM hw hV0 hR [(b,.cells #[] 105 (0,0))] (Ks _) (yy rfl rfl) (hQ b)
theorem qwG{V:qa}{bb off len cap:Nat}{news:List Value}{Q:Value→qa→Own→Prop}(hn:news.length=len*1)(h1:∀u∈news,u.oneCell'=true)(hr:∀(j:Nat) (u:Value),news[j]?=some u→rd V bb (off+j) u)(h0:0<len)(hl:len≤549755813888)
 (hQ:∀v' Gr',RowC 105 1 v' Gr' len news→Q v' V Gr'):jl Tryz.prog 157 #[.slice (some ⟨bb,off,none⟩) len cap] V [] Q:=by
 refine qB (args:=[_]) Tryz.func157 rfl Tryz.ntmps157 rfl ?_
 intro X w hM hb hw hV0 hR;dsimp only[je,Nat.zero_add,Nat.reduceAdd]
 (repeat' (first | refine qq ?_ | refine qc ?_ | refine qo ?_ | refine qh ?_ | refine qz ?_ | refine qG ?_ | refine jg ?_ | refine jm ?_ | refine qF ?_ | refine qD ?_ | refine QX rfl ?_ | refine qP ?_ | refine qT ?_ | ((first | refine qn rfl ?_ | refine jt ?_ | refine yh rfl rfl rfl ?_);(first | (refine qe8 (e:=105) rfl rfl (by kernel_rfl) ?_) | refine qk rfl ?_ | refine qm rfl ?_ | refine jJ rfl rfl ?_ | refine Y3 rfl rfl ?_ | refine jx rfl rfl ?_ | refine Qs rfl rfl ?_ | refine JO rfl rfl ?_ | refine qb6 rfl rfl ?_ | refine Qt rfl rfl ?_ | refine Qe rfl ?_ | refine qK rfl rfl ?_ | refine qL rfl rfl ?_ | refine jD rfl rfl (by omega) (by omega) ?_ | refine QD rfl rfl (by omega) (by omega) ?_ | refine qbg rfl rfl (by omega) (by omega) ?_ | refine Yu rfl rfl ?_ | refine ZD rfl rfl ?_ | refine qaN rfl rfl ?_ | refine qf tbN rfl rfl ?_ | refine QY tbN rfl rfl rfl ?_ | refine qb4 rfl rfl ?_ | refine qfv rfl rfl ?_ | refine qb5 rfl rfl ?_ | refine JJ rfl rfl ?_ | refine qb7 rfl rfl (by decide) ?_ | refine qb8 rfl rfl (by decide) ?_ | refine Yx rfl rfl ?_ | refine Y9 rfl rfl ?_ | refine Za rfl rfl (by kernel_rfl) ?_ | refine ZM rfl rfl (by kernel_rfl) ?_ | refine Qu tbN rfl rfl rfl ?_ | refine qb9 rfl ?_ | refine yw tbN rfl rfl rfl ?_ | (apply qu tbN rfl rfl;(· (first | (refine At.own (?_);repeat (first | exact Has.here | refine Has.there ?_)) | exact At.seen (by assumption)));(· exact rfl)) | (apply qQ tbN rfl rfl;(· (first | (refine At.own (?_);repeat (first | exact Has.here | refine Has.there ?_)) | exact At.seen (by assumption)));(· exact rfl)) | (apply jz tbN rfl rfl rfl rfl rfl;(· (repeat (first | exact Upd.here | apply Upd.there)));(· exact rfl)) | (apply yn tbN rfl rfl rfl rfl rfl;(· (repeat (first | exact Upd.here | apply Upd.there)));(· exact rfl)) | (apply yK tbN (by kernel_rfl) rfl (rfl:tbN.fo _ 0=_);(· (repeat (first | exact Fill.nil | (apply Fill.cons;(· exact rfl);(· exact rfl);(· exact rfl);(· exact rfl);(· exact rfl)))))) | (refine qO rfl ?_;intro b) | (refine Y4 rfl rfl ?_;intro b) | (refine jX tbN rfl ?_;intro b) | (apply j7 tbN;(· exact rfl);(· exact rfl);(· exact rfl);(· decide);(· (repeat (first | exact Cat.nil | (apply Cat.cons;(· exact rfl);(· exact rfl);(· exact rfl)) | exact App.nil | apply App.cons)));intro b))) | refine Qr rfl rfl rfl rfl ?_ | refine qS rfl ?_ | refine qC rfl ?_ | refine jW rfl (fun _=>?_) (fun _=>?_) | refine ZC rfl (fun _=>?_) (fun _=>?_) | refine jp rfl rfl (fun _=>?_) (fun _=>?_) | refine ZH rfl rfl (fun _=>?_) (fun _=>?_) | refine Yk rfl (fun _=>?_) (fun _=>?_) | refine qct rfl (fun _=>?_) (fun _=>?_) | refine YJ rfl rfl (fun _=>?_) (fun _=>?_) | refine Jj rfl rfl (fun _=>?_) (fun _=>?_)))
 refine qn rfl (qaZ (e:=105) (k:=1) (m:=0) (z:=[.int .u32 0]) (Gr:=[(b,.cells #[] 105 (0,0))]) (G1:=[]) (xs:=[]) (news:=news) tbN rfl rfl rfl (zw (by kernel_rfl)) rfl rfl (fun w hw j u hj=>?_) hn h1 (RowC.some (g:=b) (cur:=#[]) (zJ 0) (zJ 0) (by simp[maxLen]) rfl rfl) (zq _) h0 (by omega) fun v' Gr' hR'=>?_)
 · obtain⟨arr,e,f0,q1,q2⟩:=hr j u hj
   rw[yJ,yS (hw.view _ _ q1)];exact q2
 · (repeat' (first | refine qq ?_ | refine qc ?_ | refine qo ?_ | refine qh ?_ | refine qz ?_ | refine qG ?_ | refine jg ?_ | refine jm ?_ | refine qF ?_ | refine qD ?_ | refine QX rfl ?_ | refine qP ?_ | refine qT ?_ | ((first | refine qn rfl ?_ | refine jt ?_ | refine yh rfl rfl rfl ?_);(first | refine qk rfl ?_ | refine qm rfl ?_ | refine jJ rfl rfl ?_ | refine Y3 rfl rfl ?_ | refine jx rfl rfl ?_ | refine Qs rfl rfl ?_ | refine JO rfl rfl ?_ | refine qb6 rfl rfl ?_ | refine Qt rfl rfl ?_ | refine Qe rfl ?_ | refine qK rfl rfl ?_ | refine qL rfl rfl ?_ | refine jD rfl rfl (by omega) (by omega) ?_ | refine QD rfl rfl (by omega) (by omega) ?_ | refine qbg rfl rfl (by omega) (by omega) ?_ | refine Yu rfl rfl ?_ | refine ZD rfl rfl ?_ | refine qaN rfl rfl ?_ | refine qf tbN rfl rfl ?_ | refine QY tbN rfl rfl rfl ?_ | refine qb4 rfl rfl ?_ | refine qfv rfl rfl ?_ | refine qb5 rfl rfl ?_ | refine JJ rfl rfl ?_ | refine qb7 rfl rfl (by decide) ?_ | refine qb8 rfl rfl (by decide) ?_ | refine Yx rfl rfl ?_ | refine Y9 rfl rfl ?_ | refine Za rfl rfl (by kernel_rfl) ?_ | refine ZM rfl rfl (by kernel_rfl) ?_ | refine Qu tbN rfl rfl rfl ?_ | refine qb9 rfl ?_ | refine yw tbN rfl rfl rfl ?_ | (apply qu tbN rfl rfl;(· (first | (refine At.own (?_);repeat (first | exact Has.here | refine Has.there ?_)) | exact At.seen (by assumption)));(· exact rfl)) | (apply qQ tbN rfl rfl;(· (first | (refine At.own (?_);repeat (first | exact Has.here | refine Has.there ?_)) | exact At.seen (by assumption)));(· exact rfl)) | (apply jz tbN rfl rfl rfl rfl rfl;(· (repeat (first | exact Upd.here | apply Upd.there)));(· exact rfl)) | (apply yn tbN rfl rfl rfl rfl rfl;(· (repeat (first | exact Upd.here | apply Upd.there)));(· exact rfl)) | (apply yK tbN (by kernel_rfl) rfl (rfl:tbN.fo _ 0=_);(· (repeat (first | exact Fill.nil | (apply Fill.cons;(· exact rfl);(· exact rfl);(· exact rfl);(· exact rfl);(· exact rfl)))))) | (refine qO rfl ?_;intro b) | (refine Y4 rfl rfl ?_;intro b) | (refine jX tbN rfl ?_;intro b) | (apply j7 tbN;(· exact rfl);(· exact rfl);(· exact rfl);(· decide);(· (repeat (first | exact Cat.nil | (apply Cat.cons;(· exact rfl);(· exact rfl);(· exact rfl)) | exact App.nil | apply App.cons)));intro b))) | refine Qr rfl rfl rfl rfl ?_ | refine qS rfl ?_ | refine qC rfl ?_ | refine jW rfl (fun _=>?_) (fun _=>?_) | refine ZC rfl (fun _=>?_) (fun _=>?_) | refine jp rfl rfl (fun _=>?_) (fun _=>?_) | refine ZH rfl rfl (fun _=>?_) (fun _=>?_) | refine Yk rfl (fun _=>?_) (fun _=>?_) | refine qct rfl (fun _=>?_) (fun _=>?_) | refine YJ rfl rfl (fun _=>?_) (fun _=>?_) | refine Jj rfl rfl (fun _=>?_) (fun _=>?_)))
   rw[Kh];refine QF hM hw hV0 hR Gr' (Ks _) (yy rfl rfl) (hQ _ _ ?_)
   rw[zr,zx]at hR';exact hR'
end Fly
namespace Su
open Go Go.Proofs Fly
theorem qkM(l:List T):sub l 0 l.length=some l:=Zk l
theorem qhL{P:Program}{f:Nat}{V:qa}{vs:List Value}{l:List T}{e w:Nat}
 (h:jl P f vs.toArray V [] fun v V' G'=>∃ie,RepOB V' [ie] (.row false e w l) ie G'∧RepS V' [ie] (.osl 0 0 l.length) v):jl P f vs.toArray V [] fun v V' _=>∃rvs,RepA V' [.sl w l] rvs∧v=YA rvs:=by
 intro w0 hs hG hV hnd;refine(h w0 hs hG hV hnd).mono ?_
 rintro ex w' ⟨v,V',G',rfl,hh,ie,m1,m2⟩
 have hsub:sub l 0 l.length=some l:=qkM l
 have hz:toTs 64 ⟨[],[],[.row false e w l]⟩ [.osl 0 0 l.length]=some ([.sl w l],(St.mk [] [] [.row false e w l]).frow 0 w l):=by
  simp only[toTs,toT,Vo,hsub,zk]
 obtain⟨V2,G2,g2,s2,r2,_⟩:=(QL (I:=[ie]) (L:=[]) 64).2 ⟨[],[],[.row false e w l]⟩ _ [.osl 0 0 l.length] _ hz V' G' [v] (.cons m2 .nil) ⟨⟨G'++[],.cons m1 .nil,by rw[Kh]⟩,fun d sv hd _=>by simp[St.look]at hd⟩ ⟨fun p hp=>(hh.free p (by simp[hp])).2,by have:=hh.nodup;simpa using this⟩
 exact⟨_,V2,G2,rfl,g2.holds _ _ hh,[v],r2,rfl⟩
noncomputable def qrg:PrimD:=⟨List Int,fun xs=>((d1 (cQ 1 1)).dec xs).bind fun l=>bif qkD l then some l else none,fun l=>[.sl 1 (l.map eW)],none,some (105,1),fun _=>none⟩
theorem qkN{V:qa}{v:Value}{l:List T}(hl:l.length≤549755813888)(h:Rep V (.sl 1 l) v) :
 jl Tryz.prog 157 #[v] V [] fun v' V' G'=>∃ie,RepOB V' [ie] (.row false 105 1 l) ie G'∧RepS V' [ie] (.osl 0 0 l.length) v':=by
 cases h with | @sl _ _ vs a cap a1 a2 a3 a4 a5 a6=>
 have hn:vs.length=l.length*1:=by rw[← a1.length,QJ a3]
 by_cases h0:l=[]
 · subst h0
   cases a with
   | none=>exact qwE ⟨.vrow,.vrow,.oslv rfl⟩
   | some a=>exact qwF fun b=>⟨.row b 1 0,.row (by simp) (by simp[maxLen]) (by simp) (by simpa using RepA.nil) (by simp) (by simp),by
    have:=RepS.osl (V:=V) (I:=[IE.row b 1 0]) (n:=0) (off:=0) (len:=0) (b:=b) (k:=1) (ct:=0) (cap:=0) rfl (by omega) (by simp[maxLen]) ⟨by simp,by simp⟩
    simpa using this⟩
 · have hpos:0<l.length:=List.length_pos_iff.2 h0
   rcases a6 with a6 | ⟨b,off,rfl,a6⟩
   · exact absurd a6 h0
   · refine qwG hn (Jm a1 a2) a6 hpos hl fun v' Gr' hR=>?_
     obtain⟨b',ct,cap,rfl,b1,b2,b3⟩:=qoV (V:=V) (I:=[.row 0 0 0]) (l:=l) hR hpos rfl a1 a2 a3
     refine⟨.row b' 1 ct,b3.row_any,?_⟩
     have:=RepS.osl (V:=V) (I:=[IE.row b' 1 ct]) (n:=0) (off:=0) (len:=l.length) (b:=b') (k:=1) (ct:=ct) (cap:=cap) rfl (by omega) b2 ⟨b1.1,by omega⟩
     rw[Vb]at this;exact this
theorem qjw(xs:List T)(y:List Int)(h:((d1 (cQ 1 1)).dec xs).bind (fun l=>bif qkD l then some l else none)=some y)(V:qa)(vs:List Value)(hr:RepA V xs vs) :
 jl Tryz.prog 157 vs.toArray V [] fun v V' G'=>∃ie,RepOB V' [ie] (.row false 105 1 (y.map eW)) ie G'∧RepS V' [ie] (.osl 0 0 (y.map eW).length) v:=by
 obtain⟨l,h1,h2⟩:=osm h;obtain⟨h3,h4⟩:=qI h2;have:=soi h4;subst this
 have hr2:=(d1 (cQ 1 1)).rep h1 hr
 cases hr2 with | cons k1 k2=>cases k2 with | nil=>
 cases k1 with | ql k1=>
 exact qkN (l:=l.map eW) (by have h5:(l.map (view 1)).length=l.length:=zR ..;rw[show(List.map eW l).length=l.length from h5];exact zw h3) k1
theorem qrh:OkT 157 qrg:=by
 refine⟨by kernel_rfl,fun xs y h V vs _ hr=>qhL (qjw xs y h V vs hr),fun j hj xs y h V vs _ hr=>?_⟩
 have hj:some ((105,1):Nat×Nat)=some j:=hj
 simp only[za]at hj;subst hj;intro w0 a1 a2 a3 a4;refine(qjw xs y h V vs hr w0 a1 a2 a3 a4).mono ?_
 rintro e w' ⟨v,V',G',rfl,hh,ie,m1,m2⟩
 refine⟨v,V',G',rfl,hh,fun w l he hw=>?_⟩
 have he:[T.sl 1 (y.map eW)]=[.sl w l]:=he
 simp only[WP,T.sl.injEq,and_true]at he;obtain⟨rfl,rfl⟩:=he;exact⟨ie,m1,m2⟩
end Su
end
section
namespace Su
noncomputable section
open Go Go.Proofs Fly
def qmr:PrimD:=prim (dc (cQ 1 1) (d1 (cI .u32))) (dc (cQ 1 1) (d1 (cQ 1 1))) Yp
theorem qtU:OkT 112 qmr:=by
 refine⟨by kernel_rfl,fun xs y h V vs hgk hr=>?_,fun j hj=>nomatch hj⟩
 obtain⟨p,h1,h2⟩:=osm (show((dc (cQ 1 1) (d1 (cI .u32))).dec xs).bind Yp=some y from h)
 have hr2:=(dc (cQ 1 1) (d1 (cI .u32))).rep h1 hr
 have hg:=(dc (cQ 1 1) (d1 (cI .u32))).rng hr2
 obtain⟨a,b⟩:=p;obtain⟨h3,h4⟩:=qI h2;have:=soi h4;subst this
 rw[zh,zM]at h3;obtain⟨⟨ha,la⟩,hb⟩:=hg;have hb:=qdF.1 hb;obtain⟨h3a,h3b⟩:=h3;have h3a:0<b:=h3a
 obtain⟨B,rfl⟩:∃B:Nat,b=(B:Int):=⟨b.toNat,by omega⟩
 cases hr2 with | cons k1 k2=>
 cases k2 with | cons k2 k3=>
 cases k3 with | nil=>
 cases k2 with | s k2=>
 exact Go.Proofs.Sho.short_fing hgk (Wd.of ha) (by omega) (by have:=hb.2;omega) (zw h3b) k1
def qms:PrimD:=prim (d1 (cQ 1 1)) (d1 (cQ 1 1)) qdJ
theorem qtV:OkT 157 qms:=by
 refine⟨by kernel_rfl,fun xs y h V vs hg hr=>?_,fun j hj=>nomatch hj⟩
 have hF:=qrh.2.1 xs y h V vs hg hr;intro w a1 a2 a3 a4;refine(hF w a1 a2 a3 a4).mono ?_
 rintro e w' ⟨v,V',G',rfl,hh,rvs,m1,rfl⟩
 refine⟨_,V',G',rfl,hh,rvs,?_,rfl⟩
 have m1:RepA V' [.sl 1 (List.map (view 1) (y:List (U 1)))] rvs:=m1
 cases m1 with | cons k1 k2=>cases k2 with | nil=>exact .cons (.ql k1) .nil
def qri:jj:=Qh [(157,qms),(112,qmr)] qre
theorem qgv:PkT qri:=jd qnL (qR qtV (qR qtU jy))
end
end Su
end
section
namespace Su
noncomputable section
open Go Go.Proofs Fly
set_option maxRecDepth 100000
def quR:PrimD:=prim (dc (cQ 1 1) (d1 (cQ 1 1))) (dc (cQ 1 1) (dc (cQ 1 1) (d1 (cI .i64)))) (qeX)
theorem qxQ:OkT 108 quR:=YV yD qgv (fun fu a=>Div fu a.1 a.2) (by kernel_rfl) (fun _ _=>by kernel_rfl) qv8
def qrj:jj:=Qh [(108,quR)] qri
theorem qnO:PkT qrj:=jd qgv (qR qxQ jy)
end
end Su
end
section
namespace Su
open Go Go.Proofs Fly
set_option maxRecDepth 100000
noncomputable def qrk:jj:=Qh [] qrj
theorem qnP:PkT qrk:=jd qnO jy
end Su
end
section
namespace Su
open Go Go.Proofs Fly
set_option maxRecDepth 100000
noncomputable def qrl:jj:=Qh [] qrk
theorem qgw:PkT qrl:=jd qnP jy
end Su
end
section
namespace Su
noncomputable section
open Go Go.Proofs Fly
set_option maxRecDepth 100000
def qmt:PrimD:=prim (d1 (cI .u64)) (d1 (cI .i64)) (qlY)
theorem qtW:OkT 122 qmt:=QW yD qgw (fun a=>qqc a) (by kernel_rfl) (fun _ _=>by kernel_rfl) qqe
def qrm:jj:=Qh [(122,qmt)] qrl
theorem qaB:PkT qrm:=jd qgw (qR qtW jy)
end
end Su
end
section
namespace Su
noncomputable section
open Go Go.Proofs Fly
set_option maxRecDepth 100000
def qrn:PrimD:=prim (d1 cW) (d1 (cI .i64)) (qqf)
theorem qwH:OkT 152 qrn:=QW yD qaB (fun a=>qwa a) (by kernel_rfl) (fun _ _=>by kernel_rfl) qto
def qro:PrimD:=prim (dc cW (d1 (cI .i64))) (d1 cW) (qqg)
theorem qwI:OkT 154 qro:=YV yD qaB (fun fu a=>qwb fu a.1 a.2) (by kernel_rfl) (fun _ _=>by kernel_rfl) qtp
def qrp:PrimD:=prim (dc cW (d1 (cI .i64))) (dc cW (d1 cB)) (qqh)
theorem qwJ:OkT 153 qrp:=YV yD qaB (fun fu a=>qwc fu a.1 a.2) (by kernel_rfl) (fun _ _=>by kernel_rfl) qtq
def qrq:jj:=Qh [(152,qrn),(154,qro),(153,qrp)] qrm
theorem qcM:PkT qrq:=jd qaB (qR qwH (qR qwI (qR qwJ jy)))
end
end Su
end
section
namespace Su
noncomputable section
open Go Go.Proofs Fly
set_option maxRecDepth 100000
def quS:PrimD:=prim (dc qnk (dc (cI .u8) (dc cB (dc cB (d1 cB))))) (d1 cB) (quz)
theorem qxR:OkT 155 quS:=QW yD qcM (fun a=>rUp a.1 a.2.1 a.2.2.1 a.2.2.2.1 a.2.2.2.2) (by kernel_rfl) (fun _ _=>by kernel_rfl) qwe
def qmu:PrimD:=prim (dc qnk (d1 (cI .u8))) (dc (cI .u64) (d1 (cI .u8))) (ql3)
theorem qtX:OkT 156 qmu:=QW yD qcM (fun a=>qqj a.1 a.2) (by kernel_rfl) (fun _ _=>by kernel_rfl) qqk
def qrr:jj:=Qh [(155,quS),(156,qmu)] qrq
theorem qgx:PkT qrr:=jd qcM (qR qxR (qR qtX jy))
end
end Su
end
section
namespace Su
noncomputable section
open Go Go.Proofs Fly
set_option maxRecDepth 100000
def qjx:PrimD:=prim (dc qnk (d1 (cI .u8))) (dc (cI .u64) (d1 (cI .u8))) (Z6)
theorem qrs:OkT 106 qjx:=QW yD qgx (fun a=>qkF a.1 a.2) (by kernel_rfl) (fun _ _=>by kernel_rfl) qnA
def qrt:jj:=Qh [(106,qjx)] qrr
theorem qgy:PkT qrt:=jd qgx (qR qrs jy)
end
end Su
end
section
namespace Su
noncomputable section
open Go Go.Proofs Fly
set_option maxRecDepth 100000
def quT:PrimD:=prim (dc cS (d1 (cI .u8))) (d1 cS) (qji)
theorem qxS:OkT 162 quT:=YV yD qgy (fun fu a=>tRB fu a.1 a.2) (by kernel_rfl) (fun _ _=>by kernel_rfl) qwg
def qru:jj:=Qh [(162,quT)] qrt
theorem qgz:PkT qru:=jd qgy (qR qxS jy)
end
end Su
end
section
namespace Su
noncomputable section
open Go Go.Proofs Fly
set_option maxRecDepth 100000
def qrv:PrimD:=prim (d1 (cI .u64)) (d1 (cI .i64)) (fun a=>bLen a)
theorem qwK:OkT 64 qrv:=fnL yD qgz (by kernel_rfl) (fun _ _=>by kernel_rfl)
def qrw:jj:=Qh [(64,qrv)] qru
theorem qcN:PkT qrw:=jd qgz (qR qwK jy)
end
end Su
end
section
namespace Su
noncomputable section
open Go Go.Proofs Fly
set_option maxRecDepth 100000
def qrx:PrimD:=prim (dc (cI .u64) (d1 (cI .i64))) (dc (cQ 1 1) (d1 (cI .i64))) (qhF)
theorem qwL:OkT 20 qrx:=YV yD qcN (fun fu a=>qts fu a.1 a.2) (by kernel_rfl) (fun _ _=>by kernel_rfl) qtv
def qry:PrimD:=prim (d1 (cI .i64)) (d1 (cQ 1 1)) (Z8)
theorem qwM:OkT 107 qry:=QW yD qcN (fun a=>qwh a) (by kernel_rfl) (fun _ _=>by kernel_rfl) qtw
def qrz:jj:=Qh [(20,qrx),(107,qry)] qrw
theorem qgA:PkT qrz:=jd qcN (qR qwL (qR qwM jy))
end
end Su
end
section
namespace Su
noncomputable section
open Go Go.Proofs Fly
set_option maxRecDepth 100000
def qmv:PrimD:=prim (dc cB (dc (cQ 1 1) (dc (cQ 1 1) (d1 (cI .u8))))) (dc (cI .u64) (d1 (cI .u8))) (JH)
theorem qtY:OkT 50 qmv:=QW yD qgA (fun a=>ql7 a.1 a.2.1 a.2.2.1 a.2.2.2) (by kernel_rfl) (fun _ _=>by kernel_rfl) qqp
def qrA:jj:=Qh [(50,qmv)] qrz
theorem qnQ:PkT qrA:=jd qgA (qR qtY jy)
end
end Su
end
section
namespace Su
open Go Go.Proofs Fly
set_option maxRecDepth 100000
noncomputable def qrB:jj:=Qh [] qrA
theorem qgB:PkT qrB:=jd qnQ jy
end Su
end
section
namespace Su
noncomputable section
open Go Go.Proofs Fly
set_option maxRecDepth 100000
def qmw:PrimD:=prim (d1 (cQ 1 1)) (d1 cS) (Yq)
theorem qtZ:OkT 54 qmw:=YV yD qgB (fun fu a=>ql9 fu a) (by kernel_rfl) (fun _ _=>by kernel_rfl) qqx
def qhM:jj:=Qh [(54,qmw)] qrB
theorem qgC:PkT qhM:=jd qgB (qR qtZ jy)
end
end Su
end
section
namespace Su
noncomputable section
open Go Go.Proofs Fly
set_option maxRecDepth 100000
theorem qrC:(List.range 41).map (fun k=>qie tb qhM (shN tb qhM 9 9) 9 102 ((dc (cK (bs [48])) (d1 (cI .i64))).enc ((),((k:Nat):Int))) (d1 cS).dec)=(List.range 41).map fun k=>some (bs (zs k)):=by kernel_rfl
def qrD:PrimD:=prim (dc (cK (bs [48])) (d1 (cI .i64))) (d1 cS) qe1
theorem qwN:OkT 102 qrD:=qdE yD qgC (by kernel_rfl) fun a y hg h=>by
 obtain⟨u,n⟩:=a;obtain⟨h1,h2⟩:=qI h;have:=soi h2;subst this
 simp only[zh,zM]at h1;obtain⟨k,rfl⟩:=VT h1.1;exact⟨9,9,9,List.map_inj_left.1 qrC k (WM.2 (by omega))⟩
def qrE:jj:=Qh [(125,qpM),(94,quw),(102,qrD)] qhM
theorem qcO:PkT qrE:=jd qgC (qR qvR (qR qxs (qR qwN jy)))
end
end Su
end
section
namespace Su
noncomputable section
open Go Go.Proofs Fly
set_option maxRecDepth 100000
def qrF:PrimD:=prim (d1 (cI .i64)) (d1 (cQ 1 1)) (yf)
theorem qwO:OkT 51 qrF:=QW yD qcO (fun a=>qwk a) (by kernel_rfl) (fun _ _=>by kernel_rfl) qty
def quU:PrimD:=prim (dc cS (d1 (cI .i64))) (dc cS (d1 (cI .i64))) (qbZ)
theorem qxT:OkT 53 quU:=QW yD qcO (fun a=>dTr a.1 a.2) (by kernel_rfl) (fun _ _=>by kernel_rfl) qwl
def qrG:jj:=Qh [(51,qrF),(53,quU)] qrE
theorem qcP:PkT qrG:=jd qcO (qR qwO (qR qxT jy))
end
end Su
end
section
namespace Su
noncomputable section
open Go Go.Proofs Fly
set_option maxRecDepth 100000
def quV:PrimD:=prim (d1 (cI .u64)) (d1 (cA (dc (cQ 1 1) (d1 (cQ 1 1))))) (fun a=>dOf a)
theorem qxU:OkT 47 quV:=fnL yD qcP (by kernel_rfl) (fun _ _=>by kernel_rfl)
def qmx:PrimD:=prim (dc (cA (dc (cQ 1 1) (d1 (cQ 1 1)))) (d1 (cI .i64))) (d1 (cA (dc (cQ 1 1) (d1 (cQ 1 1))))) (fun a=>qjm a.1 a.2)
theorem qt0:OkT 52 qmx:=fnL yD qcP (by kernel_rfl) (fun _ _=>by kernel_rfl)
def qrH:jj:=Qh [(47,quV),(52,qmx)] qrG
theorem qgD:PkT qrH:=jd qcP (qR qxU (qR qt0 jy))
end
end Su
end
section
namespace Su
noncomputable section
open Go Go.Proofs Fly
set_option maxRecDepth 100000
def qrI:PrimD:=prim (d1 (cI .u64)) (dc cS (d1 (cI .i64))) (Ya)
theorem qwP:OkT 13 qrI:=YV yD qgD (fun fu a=>qkH fu a) (by kernel_rfl) (fun _ _=>by kernel_rfl) qtL
def qrJ:jj:=Qh [(13,qrI)] qrH
theorem qnR:PkT qrJ:=jd qgD (qR qwP jy)
end
end Su
end
section
namespace Su
open Go Go.Proofs Fly
set_option maxRecDepth 100000
noncomputable def qrK:jj:=Qh [] qrJ
theorem qgE:PkT qrK:=jd qnR jy
end Su
end
section
namespace Su
noncomputable section
open Go Go.Proofs Fly
set_option maxRecDepth 100000
def qmy:PrimD:=prim (dc cS (d1 (cI .i64))) (d1 cS) (Qo)
theorem qt1:OkT 46 qmy:=QW yD qgE (fun a=>qmk a.1 a.2) (by kernel_rfl) (fun _ _=>by kernel_rfl) qqN
def qwQ:jj:=Qh [(46,qmy)] qrK
theorem qnS:PkT qwQ:=jd qgE (qR qt1 jy)
end
end Su
end
section
namespace Su
open Go Go.Proofs Fly
set_option maxRecDepth 100000
noncomputable def qrL:PrimD:=prim (d1 (cI .u64)) (d1 cS) (QR)
theorem qrM:OkT 12 qrL:=QW yD qnS (fun a=>qkI a) (by kernel_rfl) (fun _ _=>by kernel_rfl) qnJ
end Su
end
section
namespace Fly
open Go Go.Proofs Su
set_option maxRecDepth 100000
theorem Zp{f:FuncId}{args:List Value}{V:qa}{v:Value}(h:jl Tryz.prog f args.toArray V [] fun v' _ G=>v'=v∧G=[]):jC Tryz.prog f args V v:=fun w hw=>
 (h w hw (fun _ hp=>by cases hp) (fun _ hp=>by cases hp) VH).mono (by
   rintro e w' ⟨v',V',G',rfl,hh,rfl,rfl⟩
   have hold:∀r o,V r=some o→w'.heap[r]?=some o:=fun r o hr=>by
    have h1:=hw r o hr;rw[hh.ext.block r (zU.1 h1).1 (fun h=>by cases h)];exact h1
   exact⟨_,V,[],rfl,⟨⟨hh.ext.os,hh.ext.tape,hh.ext.output,hh.ext.size,fun k hk _=>hh.ext.block k hk (fun h=>by cases h)⟩,hold,fun _ hp=>(by cases hp),fun _ hp=>(by cases hp),VH,Sub.refl _,fun r h0 hr=>absurd h0 hr⟩,rfl,rfl,rfl⟩)
theorem itW(n:Int):Lib.itoa n=itT n:=Su.qpO n
theorem qhN{V:qa}(hgk:GOK Su.tb V){n:Int}(h0 : -9223372036854775808≤n)(h1:n≤9223372036854775807) :
 jl Tryz.prog 94 [.int .i64 n].toArray V [] fun v _ G=>v = .string ⟨(itT n).toArray⟩∧G=[]:=by
 intro w hs _ _ _;refine(Any.strconv_Itoa Tryz.itoa n h0 h1 w (qpP hgk hs)).mono ?_
 rintro e w' ⟨rfl,k,os,rfl⟩
 exact⟨_,V,[],rfl,qlL hs k os,by rw[itW],rfl⟩
theorem Tryz.repX:Go.Proofs.Builder.Extra Tryz.prog Tryz.repN_ren:={
 sizeBuilder:=by kernel_rfl
 liesBuilder:=by kernel_rfl
 t5:=Tryz.repN.t5
 a5:=Tryz.repN.a5
 z5:=Tryz.repN.z5
 v5:=Tryz.repN.v5
 infoByte:=by kernel_rfl
 cellsByte:=by kernel_rfl
 sizeByte:=by kernel_rfl
 neB5:=by decide }
theorem qjy:∀n,Lib.repeatL [9] n=J4 n
 | 0=>rfl
 | n+1=>by
  unfold Lib.repeatL;rw[qjy n];rfl
theorem qrN{V:qa}{n:Nat}(h:n≤1000000):jl Tryz.prog 102 [.string ⟨#[9]⟩,.int .i64 n].toArray V [] fun v _ G=>v = .string ⟨(J4 n).toArray⟩∧G=[]:=by
 intro w hs _ _ _;refine(Any.strings_Repeat Tryz.repN Tryz.repX ⟨#[9]⟩ n w (by omega) (by show 1*n≤_;omega)).mono ?_
 rintro e w' ⟨rfl,hB⟩
 refine⟨_,V,[],rfl,⟨⟨hB.os,hB.tape,hB.output,hB.size,fun k hk _=>hB.block k hk⟩,fun r o hr=>?_,(fun p hp=>by cases hp),(fun p hp=>by cases hp),.nil,Sub.refl _,fun r h0 hr=>absurd h0 hr⟩,?_,rfl⟩
 · have:=hs r o hr
   rw[hB.block r (zU.1 this).1];exact this
 · show Value.string ⟨(Lib.repeatL [9] n).toArray⟩=_
   rw[qjy]
end Fly
end
section
namespace Fly
open Go Go.Proofs
set_option maxRecDepth 10000
attribute [local irreducible] WC WE WR Opr St Go.Calls Js QE jC Rel jl Jk Qj Owe One QS Go.CallsD
def Zy(n:Nat):Prop:=n≤1000000
theorem c72{V:qa}{b n:Nat}{s:List UInt8}{ts:List ByteArray}{sl:Value}{G0:Own}(hn:Zy n)(hS:Sl 1 V sl (ts.map .string))(hW:Wr b n s G0)(hl:s.length+n+(yQ ts).length≤549755813888) :
 jl Tryz.prog 148 [.pointer (some ⟨b,0,none⟩),sl].toArray V G0 fun _ _ G'=>Wr b n (s++J4 n++yQ ts) G':=by
 have htl:(J4 n).length=n:=by simp[J4]
 have hn':=qrN (V:=V) hn
 have hW':=hW;cases hW' with
 | new p hp=>
  refine qB Tryz.func148 rfl Tryz.ntmps148 rfl ?_;intro X w hM hMl hw hV0 hR;dsimp only[je,Nat.zero_add,Nat.reduceAdd]
  (repeat' (first | refine qq ?_ | refine qc ?_ | refine qo ?_ | refine qh ?_ | ((refine qn rfl ?_);(first | (refine ju rfl ?_) | (apply qw tb hMl;(· exact rfl);(· exact rfl);(· exact rfl);(· decide);(· (repeat (first | exact Cat.nil | (apply Cat.cons;(· exact rfl);(· exact rfl);(· exact rfl)) | exact App.nil | apply App.cons)));intro b1 hb1) | (refine qp (first:=[]) tb rfl rfl rfl hn' (zq _) ?_;rintro _ V0 _ hs0 ⟨rfl,rfl⟩;dsimp only[List.nil_append]) | (refine qp tb rfl rfl rfl (Yg hb1 hW (by simp only[ja];omega)).1 (zq _) ?_;intro _ V1 G1 hs1 hW1;have hq1:=hs0.trans ((Sub.addV hb1).trans hs1)) | refine qk rfl ?_ | refine qf tb rfl rfl ?_ | (apply qu tb rfl rfl;(· (refine At.own (?_);repeat (exact Has.here)));(· exact rfl))))))
  have hc:=c34 (hS.mono hq1) hW1 (by simp only[zg];omega)
  (repeat' (first | refine qo ?_ | ((refine qn rfl ?_);(refine qp tb rfl rfl rfl hc (zq _) ?_;intro _ V2 G2 hs2 hW2))))
  exact jb hM hw hV0 hR _ (zH _ _) (Qm rfl) hW2
 | full p hp hs hm hc hz ht=>
  refine qB Tryz.func148 rfl Tryz.ntmps148 rfl ?_;intro X w hM hMl hw hV0 hR;dsimp only[je,Nat.zero_add,Nat.reduceAdd]
  (repeat' (first | refine qq ?_ | refine qc ?_ | refine qo ?_ | refine qh ?_ | ((refine qn rfl ?_);(first | (refine ju rfl ?_) | (apply qw tb hMl;(· exact rfl);(· exact rfl);(· exact rfl);(· decide);(· (repeat (first | exact Cat.nil | (apply Cat.cons;(· exact rfl);(· exact rfl);(· exact rfl)) | exact App.nil | apply App.cons)));intro b1 hb1) | (refine qp (first:=[]) tb rfl rfl rfl hn' (zq _) ?_;rintro _ V0 _ hs0 ⟨rfl,rfl⟩;dsimp only[List.nil_append]) | (refine qp tb rfl rfl rfl (Yg hb1 hW (by simp only[ja];omega)).1 (zq _) ?_;intro _ V1 G1 hs1 hW1;have hq1:=hs0.trans ((Sub.addV hb1).trans hs1)) | refine qk rfl ?_ | refine qf tb rfl rfl ?_ | (apply qu tb rfl rfl;(· (refine At.own (?_);repeat (exact Has.here)));(· exact rfl))))))
  have hc:=c34 (hS.mono hq1) hW1 (by simp only[zg];omega)
  (repeat' (first | refine qo ?_ | ((refine qn rfl ?_);(refine qp tb rfl rfl rfl hc (zq _) ?_;intro _ V2 G2 hs2 hW2))))
  exact jb hM hw hV0 hR _ (zH _ _) (Qm rfl) hW2
end Fly
end
section
namespace Fly
open Go Go.Proofs
set_option maxRecDepth 10000
attribute [local irreducible] WC WE WR Opr St Go.Calls Js QE jC Rel jl Jk Qj Owe One QS Go.CallsD
theorem qrO{V:qa}{b n b1:Nat}{s:List UInt8}{t:ByteArray}{G0:Own}(hn:Zy n)(hb:V b1=none)(hW:Wr b n s G0)(hl:s.length+n+t.size≤549755813888) :
 jl Tryz.prog 148 [.pointer (some ⟨b,0,none⟩),.slice (some ⟨b1,0,none⟩) 1 1].toArray (addV V b1 (.cells [.string t].toArray 9 (0,0))) G0 fun _ _ G'=>Wr b n (s++J4 n++t.data.toList) G':=by
 have:=c72 (ts:=[t]) hn (Sl.made (k:=1) (m:=1) (e:=9) hb rfl (by decide)) hW (by simpa[yQ,y7]using hl)
 simpa[yQ]using this
theorem qxV{V:qa}{b n b1:Nat}{s:List UInt8}{t t2:ByteArray}{G0:Own}(hn:Zy n)(hb:V b1=none)(hW:Wr b n s G0)(hl:s.length+n+(t.size+t2.size)≤549755813888) :
 jl Tryz.prog 148 [.pointer (some ⟨b,0,none⟩),.slice (some ⟨b1,0,none⟩) 2 2].toArray (addV V b1 (.cells [.string t,.string t2].toArray 9 (0,0))) G0 fun _ _ G'=>Wr b n (s++J4 n++(t.data.toList++t2.data.toList)) G':=by
 have:=c72 (ts:=[t,t2]) hn (Sl.made (k:=1) (m:=2) (e:=9) hb rfl (by decide)) hW (by simpa[yQ,y7]using hl)
 simpa[yQ]using this
theorem Sl.at{V:qa}{b m k:Nat}{r:List Value}{e:TypeId}(h:V b=some (.cells r.toArray e (0,0)))(hr:r.length=m*k)(hm:m≤16777216):Sl k V (.slice (some ⟨b,0,none⟩) m m) r :=
 ⟨_,m,m,rfl,zJ _,by unfold maxLen;omega,hr,.inr ⟨b,0,rfl,fun i c hi=>⟨r.toArray,e,(0,0),h,by simpa using hi⟩⟩⟩
theorem qxW{V:qa}{b n b1:Nat}{s:List UInt8}{t t2 t3 t4 t5 t6:ByteArray}{G0:Own}(hn:Zy n)(hb:V b1=some (.cells [.string t,.string t2,.string t3,.string t4,.string t5,.string t6].toArray 9 (0,0)))(hW:Wr b n s G0)(hl:s.length+n+(t.size+(t2.size+(t3.size+(t4.size+(t5.size+t6.size)))))≤549755813888) :
 jl Tryz.prog 148 [.pointer (some ⟨b,0,none⟩),.slice (some ⟨b1,0,none⟩) 6 6].toArray V G0 fun _ _ G'=>Wr b n (s++J4 n++(t.data.toList++(t2.data.toList++(t3.data.toList++(t4.data.toList++(t5.data.toList++t6.data.toList)))))) G':=by
 have:=c72 (ts:=[t,t2,t3,t4,t5,t6]) hn (Sl.at (k:=1) (m:=6) (e:=9) hb rfl (by decide)) hW (by simpa[yQ,y7]using hl)
 simpa[yQ]using this
theorem Wr.shape{b:Nat}{d:Int}{s:List UInt8}{G0:Own}(h:Wr b d s G0):∃(c0 c1:Value) (rest:Own),G0=(b,.cells [c0,c1,.int .i64 d].toArray 133 (0,0))::rest∧∀d',Wr b d' s ((b,.cells [c0,c1,.int .i64 d'].toArray 133 (0,0))::rest):=by
 cases h with
 | new p hp=>exact⟨_,_,_,rfl,fun d'=>.new p hp⟩
 | full p hp hs hm hc hz ht=>exact⟨_,_,_,rfl,fun d'=>.full p hp hs hm hc hz ht⟩
def qhO(l:jc)(z:Int):Prop:=∀V,yl V→jl Tryz.prog 94 [.int .i64 z].toArray V [] fun v _ G=>v = .string ⟨(l.itoa z).toArray⟩∧G=[]
mutual
def qjz(l:jc):St_→Prop
 | .mk kd _ _ ix ex lo hi tn el=>LeafAlls l ix∧Qa l ex∧(kd=3→(qhO l lo∧-2147483648≤lo∧lo≤2147483647)∧(qhO l hi∧-2147483648≤hi∧hi≤2147483647))∧LeafSs l tn∧LeafSs l el
def LeafSs(l:jc):Sts→Prop
 | .nil=>True
 | .cons e r=>qjz l e∧LeafSs l r
end
def E71(l:jc)(x:St_):Prop:=∀ {V:qa} {b n:Nat} {s:List UInt8} {G0:Own} {cx:List Value},n+wS x≤100000→yl V→St_.Is V x cx→Wr b n s G0→s.length+(QO l n x).length≤549755813888 →
 jl Tryz.prog 147 [.pointer (some ⟨b,0,none⟩),.agg cx.toArray].toArray V G0 fun _ _ G'=>Wr b n (s++QO l n x) G'
theorem qjA{l:jc}:∀(es:Exs),LeafAlls l es→∀x∈es.list,Qa l x
 | .nil,_,x,hm=>by simp[Exs.list]at hm
 | .cons e r,h,x,hm=>by
  simp only[LeafAlls]at h;rcases zO.1 hm with h' | h'
  · rw[h'];exact h.1
  · exact qjA r h.2 x h'
theorem qrP:∀(es:Sts),∀x∈es.list,wS x≤wSs es
 | .nil,x,hm=>by simp[Sts.list]at hm
 | .cons e r,x,hm=>by
  simp only[wSs];rcases zO.1 hm with h | h
  · rw[h];omega
  · have:=qrP r x h;omega
def Yb(l:jc)(n:Nat)(xs:List St_):List UInt8:=(xs.map (QO l n)).flatten
theorem qkO{l:jc}{n i:Nat}{xs:List St_}{x:St_}(h:xs[i]?=some x):Yb l n (xs.take (i+1))=Yb l n (xs.take i)++QO l n x:=by
 unfold Yb;rw[WL,h];simp
theorem qrQ(l:jc)(n i:Nat)(xs:List St_):(Yb l n (xs.take i)).length≤(Yb l n xs).length:=by
 have h:Yb l n xs=Yb l n (xs.take i)++Yb l n (xs.drop i):=by
  unfold Yb;rw[← List.flatten_append,← Kt,KC]
 rw[h,zg];omega
set_option maxHeartbeats 1000000 in
theorem c37{l:jc}{es:Sts}(hk:∀x∈es.list,E71 l x){V:qa}{b n:Nat}{s:List UInt8}{G0:Own}{sl:Value}{cl:List Value}(hn2:n+1+wSs es≤100000)(hsg:yl V)
 (hS:Sl 15 V sl cl) (hE:Sts.Is V es cl) (hW:Wr b n s G0) (hl:s.length+(Jq l n es).length≤549755813888):jl Tryz.prog 96 [.pointer (some ⟨b,0,none⟩),sl].toArray V G0 fun _ _ G'=>Wr b n (s++Jq l n es) G':=by
 have htl:(J4 n).length=n:=YS n
 have hn:Zy n:=by unfold Zy;omega
 have hte:textSs l (n+1) es=Yb l (n+1) es.list:=qc9 l (n+1) es
 have hws:=qrP es;unfold Jq at hl ⊢
 rw[hte]at hl ⊢;simp only[zg,zm,zt]at hl;have hp:=Sts.parts hE;generalize hm:es.list.length=m at *
 refine qB Tryz.func96 rfl Tryz.ntmps96 rfl ?_;intro X w hM hMl hw hV0 hR;dsimp only[je,Nat.zero_add,Nat.reduceAdd]
 (repeat' (first | refine qq ?_ | refine qc ?_ | refine qo ?_ | refine qh ?_ | ((refine qn rfl ?_);(first | (refine ju rfl ?_) | (apply qw tb hMl;(· exact rfl);(· exact rfl);(· exact rfl);(· decide);(· (repeat (first | exact Cat.nil | (apply Cat.cons;(· exact rfl);(· exact rfl);(· exact rfl)) | exact App.nil | apply App.cons)));intro b1 hb1) | (refine qp tb rfl rfl rfl (Yg hb1 hW (by simp only[ja,zm,zt];omega)).1 (by rw[Kh]) ?_;intro _ V1 G1 hs1 hW1;have hq1:=(Sub.addV hb1).trans hs1) | refine qk rfl ?_ | refine qf tb rfl rfl ?_))))
 obtain⟨k0,k1,rest,rfl,hk1⟩:=hW1.shape;dsimp only[List.cons_append]
 (repeat' (first | refine qq ?_ | refine qc ?_ | refine qo ?_ | refine qh ?_ | refine qz ?_ | ((first | refine qn rfl ?_ | refine jt ?_);(first | (refine ju rfl ?_) | (refine jE tb rfl (hS.mono hq1) rfl rfl hp.1 (by decide) ?_) | refine qk rfl ?_ | refine jD rfl rfl (by omega) (by omega) ?_ | refine qf tb rfl rfl ?_ | (apply qu tb rfl rfl;(· (refine At.own (?_);repeat (exact Has.here)));(· exact rfl)) | (apply jz tb rfl rfl rfl rfl rfl;(· (repeat (exact Upd.here)));(· exact rfl))))))
 have hseg:∀i,(Yb l (n+1) (es.list.take i)).length≤(Yb l (n+1) es.list).length:=fun i=>qrQ _ _ _ _
 refine yL (fun L' V' G' μ=>∃i:Nat,i≤m∧μ=m-i∧Sub V V'∧Wr b ((n+1:Nat):Int) (s++[32,123,10]++Yb l (n+1) (es.list.take i)) G'∧L'=[(18,.int .i64 i),(16,sl),(17,.int .i64 m),(0,.pointer (some ⟨b,0,none⟩))]) (m0:=m) (by repeat (first | exact SubL.nil | refine SubL.cons rfl ?_)) (List.Sublist.cons_cons _ (zH _ _)) ⟨0,by omega,by omega,hq1,by simpa[Yb]using hk1 ((n+1:Nat):Int),rfl⟩ ?_
 rintro L' V' G' μ ⟨i,hi,hμ,hVs,hWi,hLe⟩
 subst hLe;by_cases hlt:i<m
 · obtain⟨ax,lx,qx,rfl,hz1,hz2,hlx,hpx⟩:=hS.mono hVs
   have hp':=Sts.parts (Sts.Is.mono hVs es hE)
   rw[hm]at hp';have hxl:=hp.1;have hlx':lx=m:=by omega
   subst hlx';have hbig:lx≤9223372036854775807:=by unfold maxLen at hz2;omega
   obtain⟨bx,ox,rfl,hrx⟩:=hpx.resolve_left (by omega)
   obtain⟨c,hc1,⟨x,hx1,hc2⟩,hc3⟩:=hp'.rd hrx (i:=i) (by omega)
   have hxm:=zW hx1
   have hsx:=qkO (l:=l) (n:=n+1) hx1
   have hle:=hseg (i+1)
   rw[hsx,zg]at hle;have hcall:=hk x hxm (n:=n+1) (by have:=hws x hxm;omega) (hsg.mono hVs) hc2 hWi (by simp only[zg,zm,zt];omega)
   obtain⟨kd,pt,nm,ix,ex,lo,hi_,tn,el⟩:=x;simp only[St_.Is]at hc2;obtain⟨s1,c1,ce,s2,c2,s3,c3,rfl,g1,h1,he,g2,h2,g3,h3⟩:=hc2;obtain⟨_,_,_,_,_,_,_,_,_,rfl⟩:=he.lits;obtain⟨_,_,_,rfl⟩:=g1.lit;obtain⟨_,_,_,rfl⟩:=g2.lit;obtain⟨_,_,_,rfl⟩:=g3.lit;simp only[zA,zx]at hc1 hc3 hcall
   (repeat' (first | refine qq ?_ | refine qc ?_ | refine qo ?_ | refine qh ?_ | refine qz ?_ | refine qG ?_ | refine jg ?_ | refine jm ?_ | refine qF ?_ | refine qD ?_ | refine qP ?_ | ((first | refine qn rfl ?_ | refine jt ?_);(first | (refine qV tb rfl rfl rfl (by omega) (by omega) ?_) | (refine j8 tb rfl rfl hc1 (by decide) hc3 ?_) | (refine qp tb rfl rfl rfl hcall (zE (l₁:=[_])) ?_;intro _ V2 G2 hs2 hW2) | refine qk rfl ?_ | refine jx rfl rfl ?_ | refine jD rfl rfl (by omega) (by omega) ?_ | (apply qQ tb rfl rfl;(· (refine At.own (?_);repeat (exact Has.here)));(· exact rfl)) | (apply yn tb rfl rfl rfl rfl rfl;(· (repeat (exact Upd.here)));(· exact rfl)) | (refine jX tb rfl ?_;intro b))) | refine jW rfl (fun _=>?_) (fun _=>?_)))
   · refine yo (by repeat (first | exact SubL.nil | refine SubL.cons rfl ?_)) (zH _ _) ⟨i+1,by omega,rfl,hVs.trans hs2,?_,rfl⟩ (by omega)
     rw[hsx,← zG];exact hW2
   · exfalso;omega
 · obtain⟨k0',k1',rest',rfl,hk'⟩:=hWi.shape
   have e:((n+1:Nat):Int)-1=(n:Int):=by omega
   have hWn:=hk' (((n+1:Nat):Int)-1)
   rw[zN (by omega)]at hWn;have hWn':Wr b (n:Int) (s++[32,123,10]++Yb l (n+1) es.list) ((b,.cells [k0',k1',.int .i64 (((n+1:Nat):Int)-1)].toArray 133 (0,0))::rest'):=by
    rw[e]at hWn ⊢;exact hWn
   (repeat' (first | refine qq ?_ | refine qc ?_ | refine qo ?_ | refine qh ?_ | refine qz ?_ | refine qG ?_ | refine jm ?_ | refine qF ?_ | refine qD ?_ | refine qP ?_ | ((first | refine qn rfl ?_ | refine jt ?_);(first | (refine ju rfl ?_) | (apply qw tb hMl;(· exact rfl);(· exact rfl);(· exact rfl);(· decide);(· (repeat (first | exact Cat.nil | (apply Cat.cons;(· exact rfl);(· exact rfl);(· exact rfl)) | exact App.nil | apply App.cons)));intro b1 hb1) | (refine qp tb rfl rfl rfl (qrO hn hb1 hWn' (by simp only[zg,ja,zm,zt];omega)) (by rw[Kh]) ?_;intro _ V2 G2 hs2 hW2) | refine qk rfl ?_ | refine jx rfl rfl ?_ | refine QD rfl rfl (by omega) (by omega) ?_ | refine qf tb rfl rfl ?_ | (apply qu tb rfl rfl;(· (refine At.own (?_);repeat (exact Has.here)));(· exact rfl)) | (apply jz tb rfl rfl rfl rfl rfl;(· (repeat (exact Upd.here)));(· exact rfl)))) | refine jW rfl (fun _=>?_) (fun _=>?_)))
   · exfalso;omega
   · refine jb hM hw hV0 hR _ (zH _ _) (Qm rfl) ?_
     simp only[← zG]at hW2 ⊢;exact hW2
end Fly
end
