/-
  The law and its row.
-/
import Derived.Test.YtldhknmacepeiaaGreatDoorHSh1
import Derived.Test.YtldhknmacepeiaaGreatDoorNB05
import Derived.Test.YtldhknmacepeiaaGreatDoorNB09
import Derived.Test.YtldhknmacepeiaaGreatDoorSuTb
import Derived.Test.YtldhknmacepeiaaGreatDoorNB10
import Derived.Test.YtldhknmacepeiaaGreatDoorNC10
import Derived.Test.YtldhknmacepeiaaGreatDoorNT04
import Derived.Shelf.Small.Strs
import Derived.Shelf.Strconv.Itoa3
import Derived.Test.YtldhknmacepeiaaGreatDoorProg
import Derived.Test.YtldhknmacepeiaaGreatDoorRfc
import Derived.Test.YtldhknmacepeiaaGreatDoorNT10
import Derived.Test.YtldhknmacepeiaaGreatDoorNT13
import Derived.Test.YtldhknmacepeiaaGreatDoorNT14
import Derived.Test.YtldhknmacepeiaaGreatDoorNT15
set_option linter.unusedVariables false
set_option linter.unusedSimpArgs false
set_option maxRecDepth 10000
section
namespace Fly
open Go Go.Proofs Su
set_option maxRecDepth 10000
noncomputable def tbN:Tabs Tryz.prog:=Su.qlJ.sound.tb
section
variable {P:Program} {n:Nat} {X:Cx} {L:Lo} {V:qc} {G:Own} {Q:Value→qc→Own→Prop}
variable {ty:TypeId} {pos:String} {af:Array Edge} {gd:Option (Nat×Bool)} {ds:Option Tmp}
theorem qg9{t e:TypeId}{a:Option Addr}{len cap:Nat}(hu:P.underlying t=some (.slice e))(w:World):(Op.equal t (.slice a len cap) (.slice none 0 0)).run P w = .ok a.isNone w:=by
 show(Op.equalIn (9999+1) t (.slice a len cap) (.slice none 0 0)).run P w=_
 unfold Op.equalIn;rw[Sem.run_bind,Fly.run_underlying hu];cases a <;> rfl
theorem qez{t u e:TypeId}{x y:Operand}{a:Option Addr}{len cap:Nat}(hx:ev L x=some (.slice a len cap))(hy:ev L y=some (.slice none 0 0))(hu:P.underlying t=some (.slice e))(k:Q (.bool a.isNone) V G) :
 Opr P n X L V G ⟨ds,.binOp .eql t x y u,ty,pos,af,gd⟩ Q:=qi3 hx hy rfl (fun w=>by simp[eqGuard]) (qg9 hu) k
end
attribute [local irreducible] WC WE WR Opr St Go.Calls qhe qiY qaL Rel jA qhy qi2 Owe One qdi Go.CallsD
theorem qyt{V:qc}{len cap:Nat}{Q:Value→qc→Own→Prop}(hQ:Q (.slice none 0 0) V []):jA Tryz.prog 157 #[.slice none len cap] V [] Q:=by
 refine jg (args:=[_]) Tryz.func157 rfl Tryz.ntmps157 rfl ?_
 intro X w hM hb hw hV0 hR;dsimp only[Qu,Nat.zero_add,Nat.reduceAdd]
 (repeat' (first | refine js ?_ | refine qA ?_ | refine jt ?_ | refine q9 ?_ | refine qV ?_ | refine ji ?_ | refine jC ?_ | refine jj ?_ | refine qp ?_ | refine qo ?_ | refine qy rfl ?_ | refine qw ?_ | refine jx ?_ | ((first | refine qW rfl ?_ | refine jk ?_ | refine yn rfl rfl rfl ?_);(first | (refine qez (e:=105) rfl rfl (by kernel_rfl) ?_) | refine qY rfl ?_ | refine qB rfl ?_ | refine qbF rfl rfl ?_ | refine YZ rfl rfl ?_ | refine qbG rfl rfl ?_ | refine qaj rfl rfl ?_ | refine Yu rfl rfl ?_ | refine qbH rfl rfl ?_ | refine qz rfl rfl ?_ | refine jD rfl ?_ | refine qG rfl rfl ?_ | refine qH rfl rfl ?_ | refine qaI rfl rfl (by omega) (by omega) ?_ | refine jc rfl rfl (by omega) (by omega) ?_ | refine qaJ rfl rfl (by omega) (by omega) ?_ | refine qag rfl rfl ?_ | refine qah rfl rfl ?_ | refine qai rfl rfl ?_ | refine qk tbN rfl rfl ?_ | refine QO tbN rfl rfl rfl ?_ | refine qbD rfl rfl ?_ | refine qeQ rfl rfl ?_ | refine qbE rfl rfl ?_ | refine Jm rfl rfl ?_ | refine qbI rfl rfl (by decide) ?_ | refine qbJ rfl rfl (by decide) ?_ | refine qbV rfl rfl ?_ | refine Yz rfl rfl ?_ | refine qaU rfl rfl (by kernel_rfl) ?_ | refine Y8 rfl rfl (by kernel_rfl) ?_ | refine qx tbN rfl rfl rfl ?_ | refine qbK rfl ?_ | refine Js tbN rfl rfl rfl ?_ | (apply qZ tbN rfl rfl;(· (first | (refine At.own (?_);repeat (first | exact Has.here | refine Has.there ?_)) | exact At.seen (by assumption)));(· exact rfl)) | (apply qX tbN rfl rfl;(· (first | (refine At.own (?_);repeat (first | exact Has.here | refine Has.there ?_)) | exact At.seen (by assumption)));(· exact rfl)) | (apply qI tbN rfl rfl rfl rfl rfl;(· (repeat (first | exact Upd.here | apply Upd.there)));(· exact rfl)) | (apply qL tbN rfl rfl rfl rfl rfl;(· (repeat (first | exact Upd.here | apply Upd.there)));(· exact rfl)) | (apply qT tbN (by kernel_rfl) rfl (rfl:tbN.fo _ 0=_);(· (repeat (first | exact Fill.nil | (apply Fill.cons;(· exact rfl);(· exact rfl);(· exact rfl);(· exact rfl);(· exact rfl)))))) | (refine ja rfl ?_;intro b) | (refine jf rfl rfl ?_;intro b) | (refine qS tbN rfl ?_;intro b) | (apply ym tbN;(· exact rfl);(· exact rfl);(· exact rfl);(· decide);(· (repeat (first | exact Cat.nil | (apply Cat.cons;(· exact rfl);(· exact rfl);(· exact rfl)) | exact App.nil | apply App.cons)));intro b))) | refine QH rfl rfl rfl rfl ?_ | refine qE rfl ?_ | refine qF rfl ?_ | refine qhh rfl (fun _=>?_) (fun _=>?_) | refine qdj rfl (fun _=>?_) (fun _=>?_) | refine Y0 rfl rfl (fun _=>?_) (fun _=>?_) | refine Y1 rfl rfl (fun _=>?_) (fun _=>?_) | refine qaV rfl (fun _=>?_) (fun _=>?_) | refine qdE rfl (fun _=>?_) (fun _=>?_) | refine Yb rfl rfl (fun _=>?_) (fun _=>?_) | refine Y9 rfl rfl (fun _=>?_) (fun _=>?_)))
 exact jo hM hw hV0 hR [] (VK _) (qcG rfl rfl) hQ
theorem qyu{V:qc}{a:Addr}{cap:Nat}{Q:Value→qc→Own→Prop}(hQ:∀b,Q (.slice (some ⟨b,0,none⟩) 0 0) V [(b,.cells #[] 105 (0,0))]):jA Tryz.prog 157 #[.slice (some a) 0 cap] V [] Q:=by
 refine jg (args:=[_]) Tryz.func157 rfl Tryz.ntmps157 rfl ?_
 intro X w hM hb hw hV0 hR;dsimp only[Qu,Nat.zero_add,Nat.reduceAdd]
 (repeat' (first | refine js ?_ | refine qA ?_ | refine jt ?_ | refine q9 ?_ | refine qV ?_ | refine ji ?_ | refine jC ?_ | refine jj ?_ | refine qp ?_ | refine qo ?_ | refine qy rfl ?_ | refine qw ?_ | refine jx ?_ | ((first | refine qW rfl ?_ | refine jk ?_ | refine yn rfl rfl rfl ?_);(first | (refine qez (e:=105) rfl rfl (by kernel_rfl) ?_) | refine qY rfl ?_ | refine qB rfl ?_ | refine qbF rfl rfl ?_ | refine YZ rfl rfl ?_ | refine qbG rfl rfl ?_ | refine qaj rfl rfl ?_ | refine Yu rfl rfl ?_ | refine qbH rfl rfl ?_ | refine qz rfl rfl ?_ | refine jD rfl ?_ | refine qG rfl rfl ?_ | refine qH rfl rfl ?_ | refine qaI rfl rfl (by omega) (by omega) ?_ | refine jc rfl rfl (by omega) (by omega) ?_ | refine qaJ rfl rfl (by omega) (by omega) ?_ | refine qag rfl rfl ?_ | refine qah rfl rfl ?_ | refine qai rfl rfl ?_ | refine qk tbN rfl rfl ?_ | refine QO tbN rfl rfl rfl ?_ | refine qbD rfl rfl ?_ | refine qeQ rfl rfl ?_ | refine qbE rfl rfl ?_ | refine Jm rfl rfl ?_ | refine qbI rfl rfl (by decide) ?_ | refine qbJ rfl rfl (by decide) ?_ | refine qbV rfl rfl ?_ | refine Yz rfl rfl ?_ | refine qaU rfl rfl (by kernel_rfl) ?_ | refine Y8 rfl rfl (by kernel_rfl) ?_ | refine qx tbN rfl rfl rfl ?_ | refine qbK rfl ?_ | refine Js tbN rfl rfl rfl ?_ | (apply qZ tbN rfl rfl;(· (first | (refine At.own (?_);repeat (first | exact Has.here | refine Has.there ?_)) | exact At.seen (by assumption)));(· exact rfl)) | (apply qX tbN rfl rfl;(· (first | (refine At.own (?_);repeat (first | exact Has.here | refine Has.there ?_)) | exact At.seen (by assumption)));(· exact rfl)) | (apply qI tbN rfl rfl rfl rfl rfl;(· (repeat (first | exact Upd.here | apply Upd.there)));(· exact rfl)) | (apply qL tbN rfl rfl rfl rfl rfl;(· (repeat (first | exact Upd.here | apply Upd.there)));(· exact rfl)) | (apply qT tbN (by kernel_rfl) rfl (rfl:tbN.fo _ 0=_);(· (repeat (first | exact Fill.nil | (apply Fill.cons;(· exact rfl);(· exact rfl);(· exact rfl);(· exact rfl);(· exact rfl)))))) | (refine ja rfl ?_;intro b) | (refine jf rfl rfl ?_;intro b) | (refine qS tbN rfl ?_;intro b) | (apply ym tbN;(· exact rfl);(· exact rfl);(· exact rfl);(· decide);(· (repeat (first | exact Cat.nil | (apply Cat.cons;(· exact rfl);(· exact rfl);(· exact rfl)) | exact App.nil | apply App.cons)));intro b))) | refine QH rfl rfl rfl rfl ?_ | refine qE rfl ?_ | refine qF rfl ?_ | refine qhh rfl (fun _=>?_) (fun _=>?_) | refine qdj rfl (fun _=>?_) (fun _=>?_) | refine Y0 rfl rfl (fun _=>?_) (fun _=>?_) | refine Y1 rfl rfl (fun _=>?_) (fun _=>?_) | refine qaV rfl (fun _=>?_) (fun _=>?_) | refine qdE rfl (fun _=>?_) (fun _=>?_) | refine Yb rfl rfl (fun _=>?_) (fun _=>?_) | refine Y9 rfl rfl (fun _=>?_) (fun _=>?_)))
 refine qW rfl (qap (e:=105) (k:=1) tbN rfl rfl rfl (zI 0) ?_)
 (repeat' (first | refine js ?_ | refine qA ?_ | refine jt ?_ | refine q9 ?_ | refine qV ?_ | refine ji ?_ | refine jC ?_ | refine jj ?_ | refine qp ?_ | refine qo ?_ | refine qy rfl ?_ | refine qw ?_ | refine jx ?_ | ((first | refine qW rfl ?_ | refine jk ?_ | refine yn rfl rfl rfl ?_);(first | refine qY rfl ?_ | refine qB rfl ?_ | refine qbF rfl rfl ?_ | refine YZ rfl rfl ?_ | refine qbG rfl rfl ?_ | refine qaj rfl rfl ?_ | refine Yu rfl rfl ?_ | refine qbH rfl rfl ?_ | refine qz rfl rfl ?_ | refine jD rfl ?_ | refine qG rfl rfl ?_ | refine qH rfl rfl ?_ | refine qaI rfl rfl (by omega) (by omega) ?_ | refine jc rfl rfl (by omega) (by omega) ?_ | refine qaJ rfl rfl (by omega) (by omega) ?_ | refine qag rfl rfl ?_ | refine qah rfl rfl ?_ | refine qai rfl rfl ?_ | refine qk tbN rfl rfl ?_ | refine QO tbN rfl rfl rfl ?_ | refine qbD rfl rfl ?_ | refine qeQ rfl rfl ?_ | refine qbE rfl rfl ?_ | refine Jm rfl rfl ?_ | refine qbI rfl rfl (by decide) ?_ | refine qbJ rfl rfl (by decide) ?_ | refine qbV rfl rfl ?_ | refine Yz rfl rfl ?_ | refine qaU rfl rfl (by kernel_rfl) ?_ | refine Y8 rfl rfl (by kernel_rfl) ?_ | refine qx tbN rfl rfl rfl ?_ | refine qbK rfl ?_ | refine Js tbN rfl rfl rfl ?_ | (apply qZ tbN rfl rfl;(· (first | (refine At.own (?_);repeat (first | exact Has.here | refine Has.there ?_)) | exact At.seen (by assumption)));(· exact rfl)) | (apply qX tbN rfl rfl;(· (first | (refine At.own (?_);repeat (first | exact Has.here | refine Has.there ?_)) | exact At.seen (by assumption)));(· exact rfl)) | (apply qI tbN rfl rfl rfl rfl rfl;(· (repeat (first | exact Upd.here | apply Upd.there)));(· exact rfl)) | (apply qL tbN rfl rfl rfl rfl rfl;(· (repeat (first | exact Upd.here | apply Upd.there)));(· exact rfl)) | (apply qT tbN (by kernel_rfl) rfl (rfl:tbN.fo _ 0=_);(· (repeat (first | exact Fill.nil | (apply Fill.cons;(· exact rfl);(· exact rfl);(· exact rfl);(· exact rfl);(· exact rfl)))))) | (refine ja rfl ?_;intro b) | (refine jf rfl rfl ?_;intro b) | (refine qS tbN rfl ?_;intro b) | (apply ym tbN;(· exact rfl);(· exact rfl);(· exact rfl);(· decide);(· (repeat (first | exact Cat.nil | (apply Cat.cons;(· exact rfl);(· exact rfl);(· exact rfl)) | exact App.nil | apply App.cons)));intro b))) | refine QH rfl rfl rfl rfl ?_ | refine qE rfl ?_ | refine qF rfl ?_ | refine qhh rfl (fun _=>?_) (fun _=>?_) | refine qdj rfl (fun _=>?_) (fun _=>?_) | refine Y0 rfl rfl (fun _=>?_) (fun _=>?_) | refine Y1 rfl rfl (fun _=>?_) (fun _=>?_) | refine qaV rfl (fun _=>?_) (fun _=>?_) | refine qdE rfl (fun _=>?_) (fun _=>?_) | refine Yb rfl rfl (fun _=>?_) (fun _=>?_) | refine Y9 rfl rfl (fun _=>?_) (fun _=>?_)))
 exact jo hM hw hV0 hR [(b,.cells #[] 105 (0,0))] (VK _) (qcG rfl rfl) (hQ b)
theorem qyv{V:qc}{bb off len cap:Nat}{news:List Value}{Q:Value→qc→Own→Prop}(hn:news.length=len*1)(h1:∀u∈news,u.oneCell'=true)(hr:∀(j:Nat) (u:Value),news[j]?=some u→rd V bb (off+j) u)(h0:0<len)(hl:len≤549755813888)
 (hQ:∀v' Gr',RowC 105 1 v' Gr' len news→Q v' V Gr'):jA Tryz.prog 157 #[.slice (some ⟨bb,off,none⟩) len cap] V [] Q:=by
 refine jg (args:=[_]) Tryz.func157 rfl Tryz.ntmps157 rfl ?_
 intro X w hM hb hw hV0 hR;dsimp only[Qu,Nat.zero_add,Nat.reduceAdd]
 (repeat' (first | refine js ?_ | refine qA ?_ | refine jt ?_ | refine q9 ?_ | refine qV ?_ | refine ji ?_ | refine jC ?_ | refine jj ?_ | refine qp ?_ | refine qo ?_ | refine qy rfl ?_ | refine qw ?_ | refine jx ?_ | ((first | refine qW rfl ?_ | refine jk ?_ | refine yn rfl rfl rfl ?_);(first | (refine qez (e:=105) rfl rfl (by kernel_rfl) ?_) | refine qY rfl ?_ | refine qB rfl ?_ | refine qbF rfl rfl ?_ | refine YZ rfl rfl ?_ | refine qbG rfl rfl ?_ | refine qaj rfl rfl ?_ | refine Yu rfl rfl ?_ | refine qbH rfl rfl ?_ | refine qz rfl rfl ?_ | refine jD rfl ?_ | refine qG rfl rfl ?_ | refine qH rfl rfl ?_ | refine qaI rfl rfl (by omega) (by omega) ?_ | refine jc rfl rfl (by omega) (by omega) ?_ | refine qaJ rfl rfl (by omega) (by omega) ?_ | refine qag rfl rfl ?_ | refine qah rfl rfl ?_ | refine qai rfl rfl ?_ | refine qk tbN rfl rfl ?_ | refine QO tbN rfl rfl rfl ?_ | refine qbD rfl rfl ?_ | refine qeQ rfl rfl ?_ | refine qbE rfl rfl ?_ | refine Jm rfl rfl ?_ | refine qbI rfl rfl (by decide) ?_ | refine qbJ rfl rfl (by decide) ?_ | refine qbV rfl rfl ?_ | refine Yz rfl rfl ?_ | refine qaU rfl rfl (by kernel_rfl) ?_ | refine Y8 rfl rfl (by kernel_rfl) ?_ | refine qx tbN rfl rfl rfl ?_ | refine qbK rfl ?_ | refine Js tbN rfl rfl rfl ?_ | (apply qZ tbN rfl rfl;(· (first | (refine At.own (?_);repeat (first | exact Has.here | refine Has.there ?_)) | exact At.seen (by assumption)));(· exact rfl)) | (apply qX tbN rfl rfl;(· (first | (refine At.own (?_);repeat (first | exact Has.here | refine Has.there ?_)) | exact At.seen (by assumption)));(· exact rfl)) | (apply qI tbN rfl rfl rfl rfl rfl;(· (repeat (first | exact Upd.here | apply Upd.there)));(· exact rfl)) | (apply qL tbN rfl rfl rfl rfl rfl;(· (repeat (first | exact Upd.here | apply Upd.there)));(· exact rfl)) | (apply qT tbN (by kernel_rfl) rfl (rfl:tbN.fo _ 0=_);(· (repeat (first | exact Fill.nil | (apply Fill.cons;(· exact rfl);(· exact rfl);(· exact rfl);(· exact rfl);(· exact rfl)))))) | (refine ja rfl ?_;intro b) | (refine jf rfl rfl ?_;intro b) | (refine qS tbN rfl ?_;intro b) | (apply ym tbN;(· exact rfl);(· exact rfl);(· exact rfl);(· decide);(· (repeat (first | exact Cat.nil | (apply Cat.cons;(· exact rfl);(· exact rfl);(· exact rfl)) | exact App.nil | apply App.cons)));intro b))) | refine QH rfl rfl rfl rfl ?_ | refine qE rfl ?_ | refine qF rfl ?_ | refine qhh rfl (fun _=>?_) (fun _=>?_) | refine qdj rfl (fun _=>?_) (fun _=>?_) | refine Y0 rfl rfl (fun _=>?_) (fun _=>?_) | refine Y1 rfl rfl (fun _=>?_) (fun _=>?_) | refine qaV rfl (fun _=>?_) (fun _=>?_) | refine qdE rfl (fun _=>?_) (fun _=>?_) | refine Yb rfl rfl (fun _=>?_) (fun _=>?_) | refine Y9 rfl rfl (fun _=>?_) (fun _=>?_)))
 refine qW rfl (qaq (e:=105) (k:=1) (m:=0) (z:=[.int .u32 0]) (Gr:=[(b,.cells #[] 105 (0,0))]) (G1:=[]) (xs:=[]) (news:=news) tbN rfl rfl rfl (zo (by kernel_rfl)) rfl rfl (fun w hw j u hj=>?_) hn h1 (RowC.some (g:=b) (cur:=#[]) (zI 0) (zI 0) (by simp[maxLen]) rfl rfl) (zN _) h0 (by omega) fun v' Gr' hR'=>?_)
 · obtain⟨arr,e,f0,q1,q2⟩:=hr j u hj
   rw[Qv,yL (hw.view _ _ q1)];exact q2
 · (repeat' (first | refine js ?_ | refine qA ?_ | refine jt ?_ | refine q9 ?_ | refine qV ?_ | refine ji ?_ | refine jC ?_ | refine jj ?_ | refine qp ?_ | refine qo ?_ | refine qy rfl ?_ | refine qw ?_ | refine jx ?_ | ((first | refine qW rfl ?_ | refine jk ?_ | refine yn rfl rfl rfl ?_);(first | refine qY rfl ?_ | refine qB rfl ?_ | refine qbF rfl rfl ?_ | refine YZ rfl rfl ?_ | refine qbG rfl rfl ?_ | refine qaj rfl rfl ?_ | refine Yu rfl rfl ?_ | refine qbH rfl rfl ?_ | refine qz rfl rfl ?_ | refine jD rfl ?_ | refine qG rfl rfl ?_ | refine qH rfl rfl ?_ | refine qaI rfl rfl (by omega) (by omega) ?_ | refine jc rfl rfl (by omega) (by omega) ?_ | refine qaJ rfl rfl (by omega) (by omega) ?_ | refine qag rfl rfl ?_ | refine qah rfl rfl ?_ | refine qai rfl rfl ?_ | refine qk tbN rfl rfl ?_ | refine QO tbN rfl rfl rfl ?_ | refine qbD rfl rfl ?_ | refine qeQ rfl rfl ?_ | refine qbE rfl rfl ?_ | refine Jm rfl rfl ?_ | refine qbI rfl rfl (by decide) ?_ | refine qbJ rfl rfl (by decide) ?_ | refine qbV rfl rfl ?_ | refine Yz rfl rfl ?_ | refine qaU rfl rfl (by kernel_rfl) ?_ | refine Y8 rfl rfl (by kernel_rfl) ?_ | refine qx tbN rfl rfl rfl ?_ | refine qbK rfl ?_ | refine Js tbN rfl rfl rfl ?_ | (apply qZ tbN rfl rfl;(· (first | (refine At.own (?_);repeat (first | exact Has.here | refine Has.there ?_)) | exact At.seen (by assumption)));(· exact rfl)) | (apply qX tbN rfl rfl;(· (first | (refine At.own (?_);repeat (first | exact Has.here | refine Has.there ?_)) | exact At.seen (by assumption)));(· exact rfl)) | (apply qI tbN rfl rfl rfl rfl rfl;(· (repeat (first | exact Upd.here | apply Upd.there)));(· exact rfl)) | (apply qL tbN rfl rfl rfl rfl rfl;(· (repeat (first | exact Upd.here | apply Upd.there)));(· exact rfl)) | (apply qT tbN (by kernel_rfl) rfl (rfl:tbN.fo _ 0=_);(· (repeat (first | exact Fill.nil | (apply Fill.cons;(· exact rfl);(· exact rfl);(· exact rfl);(· exact rfl);(· exact rfl)))))) | (refine ja rfl ?_;intro b) | (refine jf rfl rfl ?_;intro b) | (refine qS tbN rfl ?_;intro b) | (apply ym tbN;(· exact rfl);(· exact rfl);(· exact rfl);(· decide);(· (repeat (first | exact Cat.nil | (apply Cat.cons;(· exact rfl);(· exact rfl);(· exact rfl)) | exact App.nil | apply App.cons)));intro b))) | refine QH rfl rfl rfl rfl ?_ | refine qE rfl ?_ | refine qF rfl ?_ | refine qhh rfl (fun _=>?_) (fun _=>?_) | refine qdj rfl (fun _=>?_) (fun _=>?_) | refine Y0 rfl rfl (fun _=>?_) (fun _=>?_) | refine Y1 rfl rfl (fun _=>?_) (fun _=>?_) | refine qaV rfl (fun _=>?_) (fun _=>?_) | refine qdE rfl (fun _=>?_) (fun _=>?_) | refine Yb rfl rfl (fun _=>?_) (fun _=>?_) | refine Y9 rfl rfl (fun _=>?_) (fun _=>?_)))
   rw[KH];refine jo hM hw hV0 hR Gr' (VK _) (qcG rfl rfl) (hQ _ _ ?_)
   rw[zG,zH]at hR';exact hR'
end Fly
namespace Su
open Go Go.Proofs Fly
theorem qj3(l:List T):sub l 0 l.length=some l:=JS l
theorem qha{P:Program}{f:Nat}{V:qc}{vs:List Value}{l:List T}{e w:Nat}
 (h:jA P f vs.toArray V [] fun v V' G'=>∃ie,RepOB V' [ie] (.row false e w l) ie G'∧RepS V' [ie] (.osl 0 0 l.length) v):jA P f vs.toArray V [] fun v V' _=>∃rvs,RepA V' [.sl w l] rvs∧v=QI rvs:=by
 intro w0 hs hG hV hnd;refine(h w0 hs hG hV hnd).mono ?_
 rintro ex w' ⟨v,V',G',rfl,hh,ie,m1,m2⟩
 have hsub:sub l 0 l.length=some l:=qj3 l
 have hz:toTs 64 ⟨[],[],[.row false e w l]⟩ [.osl 0 0 l.length]=some ([.sl w l],(St.mk [] [] [.row false e w l]).frow 0 w l):=by
  simp only[toTs,toT,VY,hsub,zh]
 obtain⟨V2,G2,g2,s2,r2,_⟩:=(QB (I:=[ie]) (L:=[]) 64).2 ⟨[],[],[.row false e w l]⟩ _ [.osl 0 0 l.length] _ hz V' G' [v] (.cons m2 .nil) ⟨⟨G'++[],.cons m1 .nil,by rw[KH]⟩,fun d sv hd _=>by simp[St.look]at hd⟩ ⟨fun p hp=>(hh.free p (by simp[hp])).2,by have:=hh.nodup;simpa using this⟩
 exact⟨_,V2,G2,rfl,g2.holds _ _ hh,[v],r2,rfl⟩
noncomputable def qq1:PrimD:=⟨List Int,fun xs=>((d1 (cQ 1 1)).dec xs).bind fun l=>bif qgN l then some l else none,fun l=>[.sl 1 (l.map eW)],none,some (105,1),fun _=>none⟩
theorem qj4{V:qc}{v:Value}{l:List T}(hl:l.length≤549755813888)(h:Rep V (.sl 1 l) v) :
 jA Tryz.prog 157 #[v] V [] fun v' V' G'=>∃ie,RepOB V' [ie] (.row false 105 1 l) ie G'∧RepS V' [ie] (.osl 0 0 l.length) v':=by
 cases h with | @sl _ _ vs a cap a1 a2 a3 a4 a5 a6=>
 have hn:vs.length=l.length*1:=by rw[← a1.length,Qz a3]
 by_cases h0:l=[]
 · subst h0
   cases a with
   | none=>exact qyt ⟨.vrow,.vrow,.oslv rfl⟩
   | some a=>exact qyu fun b=>⟨.row b 1 0,.row (by simp) (by simp[maxLen]) (by simp) (by simpa using RepA.nil) (by simp) (by simp),by
    have:=RepS.osl (V:=V) (I:=[IE.row b 1 0]) (n:=0) (off:=0) (len:=0) (b:=b) (k:=1) (ct:=0) (cap:=0) rfl (by omega) (by simp[maxLen]) ⟨by simp,by simp⟩
    simpa using this⟩
 · have hpos:0<l.length:=List.length_pos_iff.2 h0
   rcases a6 with a6 | ⟨b,off,rfl,a6⟩
   · exact absurd a6 h0
   · refine qyv hn (Q4 a1 a2) a6 hpos hl fun v' Gr' hR=>?_
     obtain⟨b',ct,cap,rfl,b1,b2,b3⟩:=qok (V:=V) (I:=[.row 0 0 0]) (l:=l) hR hpos rfl a1 a2 a3
     refine⟨.row b' 1 ct,b3.row_any,?_⟩
     have:=RepS.osl (V:=V) (I:=[IE.row b' 1 ct]) (n:=0) (off:=0) (len:=l.length) (b:=b') (k:=1) (ct:=ct) (cap:=cap) rfl (by omega) b2 ⟨b1.1,by omega⟩
     rw[KY]at this;exact this
theorem qiK(xs:List T)(y:List Int)(h:((d1 (cQ 1 1)).dec xs).bind (fun l=>bif qgN l then some l else none)=some y)(V:qc)(vs:List Value)(hr:RepA V xs vs) :
 jA Tryz.prog 157 vs.toArray V [] fun v V' G'=>∃ie,RepOB V' [ie] (.row false 105 1 (y.map eW)) ie G'∧RepS V' [ie] (.osl 0 0 (y.map eW).length) v:=by
 obtain⟨l,h1,h2⟩:=osm h;obtain⟨h3,h4⟩:=qh h2;have:=soi h4;subst this
 have hr2:=(d1 (cQ 1 1)).rep h1 hr
 cases hr2 with | cons k1 k2=>cases k2 with | nil=>
 cases k1 with | ql k1=>
 exact qj4 (l:=l.map eW) (by have h5:(l.map (view 1)).length=l.length:=zK ..;rw[show(List.map eW l).length=l.length from h5];exact zo h3) k1
theorem qq2:OkT 157 qq1:=by
 refine⟨by kernel_rfl,fun xs y h V vs _ hr=>qha (qiK xs y h V vs hr),fun j hj xs y h V vs _ hr=>?_⟩
 have hj:some ((105,1):Nat×Nat)=some j:=hj
 simp only[za]at hj;subst hj;intro w0 a1 a2 a3 a4;refine(qiK xs y h V vs hr w0 a1 a2 a3 a4).mono ?_
 rintro e w' ⟨v,V',G',rfl,hh,ie,m1,m2⟩
 refine⟨v,V',G',rfl,hh,fun w l he hw=>?_⟩
 have he:[T.sl 1 (y.map eW)]=[.sl w l]:=he
 simp only[WS,T.sl.injEq,and_true]at he;obtain⟨rfl,rfl⟩:=he;exact⟨ie,m1,m2⟩
end Su
end
section
namespace Su
noncomputable section
open Go Go.Proofs Fly
def qlQ:PrimD:=prim (dc (cQ 1 1) (d1 (cI .u32))) (dc (cQ 1 1) (d1 (cQ 1 1))) JT
theorem quO:OkT 112 qlQ:=by
 refine⟨by kernel_rfl,fun xs y h V vs hgk hr=>?_,fun j hj=>nomatch hj⟩
 obtain⟨p,h1,h2⟩:=osm (show((dc (cQ 1 1) (d1 (cI .u32))).dec xs).bind JT=some y from h)
 have hr2:=(dc (cQ 1 1) (d1 (cI .u32))).rep h1 hr
 have hg:=(dc (cQ 1 1) (d1 (cI .u32))).rng hr2
 obtain⟨a,b⟩:=p;obtain⟨h3,h4⟩:=qh h2;have:=soi h4;subst this
 rw[zn,zO]at h3;obtain⟨⟨ha,la⟩,hb⟩:=hg;have hb:=qc4.1 hb;obtain⟨h3a,h3b⟩:=h3;have h3a:0<b:=h3a
 obtain⟨B,rfl⟩:∃B:Nat,b=(B:Int):=⟨b.toNat,by omega⟩
 cases hr2 with | cons k1 k2=>
 cases k2 with | cons k2 k3=>
 cases k3 with | nil=>
 cases k2 with | s k2=>
 exact Go.Proofs.Sho.short_fing hgk (Wd.of ha) (by omega) (by have:=hb.2;omega) (zo h3b) k1
def qlR:PrimD:=prim (d1 (cQ 1 1)) (d1 (cQ 1 1)) QY
theorem quP:OkT 157 qlR:=by
 refine⟨by kernel_rfl,fun xs y h V vs hg hr=>?_,fun j hj=>nomatch hj⟩
 have hF:=qq2.2.1 xs y h V vs hg hr;intro w a1 a2 a3 a4;refine(hF w a1 a2 a3 a4).mono ?_
 rintro e w' ⟨v,V',G',rfl,hh,rvs,m1,rfl⟩
 refine⟨_,V',G',rfl,hh,rvs,?_,rfl⟩
 have m1:RepA V' [.sl 1 (List.map (view 1) (y:List (U 1)))] rvs:=m1
 cases m1 with | cons k1 k2=>cases k2 with | nil=>exact .cons (.ql k1) .nil
def qq3:qK:=jV [(157,qlR),(112,qlQ)] qqZ
theorem qfL:PkT qq3:=qu qm6 (qm quP (qm quO qO))
end
end Su
end
section
namespace Su
noncomputable section
open Go Go.Proofs Fly
set_option maxRecDepth 100000
def qv3:PrimD:=prim (dc (cQ 1 1) (d1 (cQ 1 1))) (dc (cQ 1 1) (dc (cQ 1 1) (d1 (cI .i64)))) (YP)
theorem qAt:OkT 108 qv3:=yT jy qfL (fun fu a=>Div fu a.1 a.2) (by kernel_rfl) (fun _ _=>by kernel_rfl) qxh
def qq4:qK:=jV [(108,qv3)] qq3
theorem qfM:PkT qq4:=qu qfL (qm qAt qO)
end
end Su
end
section
namespace Su
noncomputable section
open Go Go.Proofs Fly
set_option maxRecDepth 100000
def qv4:PrimD:=prim (dc (cQ 1 1) (d1 (cQ 1 1))) (d1 (cQ 1 1)) (qim)
theorem qAu:OkT 124 qv4:=yT jy qfM (fun fu a=>Gcd fu a.1 a.2) (by kernel_rfl) (fun _ _=>by kernel_rfl) qxi
def qq5:qK:=jV [(124,qv4)] qq4
theorem qm9:PkT qq5:=qu qfM (qm qAu qO)
end
end Su
end
section
namespace Su
open Go Go.Proofs Fly
set_option maxRecDepth 100000
noncomputable def qq6:qK:=jV [] qq5
theorem qfN:PkT qq6:=qu qm9 qO
end Su
end
section
namespace Su
noncomputable section
open Go Go.Proofs Fly
set_option maxRecDepth 100000
def qlS:PrimD:=prim (d1 (cI .u64)) (d1 (cI .i64)) (qk6)
theorem quQ:OkT 122 qlS:=yl jy qfN (fun a=>qpo a) (by kernel_rfl) (fun _ _=>by kernel_rfl) qpq
def qq7:qK:=jV [(122,qlS)] qq6
theorem Z1:PkT qq7:=qu qfN (qm quQ qO)
end
end Su
end
section
namespace Su
noncomputable section
open Go Go.Proofs Fly
set_option maxRecDepth 100000
def qq8:PrimD:=prim (d1 cW) (d1 (cI .i64)) (qpr)
theorem qyw:OkT 152 qq8:=yl jy Z1 (fun a=>qxj a) (by kernel_rfl) (fun _ _=>by kernel_rfl) qtL
def qq9:PrimD:=prim (dc cW (d1 (cI .i64))) (d1 cW) (qps)
theorem qyx:OkT 154 qq9:=yT jy Z1 (fun fu a=>qxk fu a.1 a.2) (by kernel_rfl) (fun _ _=>by kernel_rfl) qtM
def qra:PrimD:=prim (dc cW (d1 (cI .i64))) (dc cW (d1 cB)) (qpt)
theorem qyy:OkT 153 qra:=yT jy Z1 (fun fu a=>qxl fu a.1 a.2) (by kernel_rfl) (fun _ _=>by kernel_rfl) qtN
def qrb:qK:=jV [(152,qq8),(154,qq9),(153,qra)] qq7
theorem qch:PkT qrb:=qu Z1 (qm qyw (qm qyx (qm qyy qO)))
end
end Su
end
section
namespace Su
noncomputable section
open Go Go.Proofs Fly
set_option maxRecDepth 100000
def qv5:PrimD:=prim (dc qmE (dc (cI .u8) (dc cB (dc cB (d1 cB))))) (d1 cB) (qvA)
theorem qAv:OkT 155 qv5:=yl jy qch (fun a=>rUp a.1 a.2.1 a.2.2.1 a.2.2.2.1 a.2.2.2.2) (by kernel_rfl) (fun _ _=>by kernel_rfl) qxn
def qlT:PrimD:=prim (dc qmE (d1 (cI .u8))) (dc (cI .u64) (d1 (cI .u8))) (qlb)
theorem quR:OkT 156 qlT:=yl jy qch (fun a=>qpv a.1 a.2) (by kernel_rfl) (fun _ _=>by kernel_rfl) qpw
def qrc:qK:=jV [(155,qv5),(156,qlT)] qrb
theorem qfO:PkT qrc:=qu qch (qm qAv (qm quR qO))
end
end Su
end
section
namespace Su
noncomputable section
open Go Go.Proofs Fly
set_option maxRecDepth 100000
def qiL:PrimD:=prim (dc qmE (d1 (cI .u8))) (dc (cI .u64) (d1 (cI .u8))) (Zq)
theorem qrd:OkT 106 qiL:=yl jy qfO (fun a=>qjL a.1 a.2) (by kernel_rfl) (fun _ _=>by kernel_rfl) qmN
def qre:qK:=jV [(106,qiL)] qrc
theorem qci:PkT qre:=qu qfO (qm qrd qO)
end
end Su
end
section
namespace Su
noncomputable section
open Go Go.Proofs Fly
set_option maxRecDepth 100000
def qv6:PrimD:=prim (dc cS (d1 (cI .u8))) (d1 cS) (qio)
theorem qAw:OkT 117 qv6:=yT jy qci (fun fu a=>tLB fu a.1 a.2) (by kernel_rfl) (fun _ _=>by kernel_rfl) qxq
def qv7:PrimD:=prim (dc cS (d1 (cI .u8))) (d1 cS) (qip)
theorem qAx:OkT 162 qv7:=yT jy qci (fun fu a=>tRB fu a.1 a.2) (by kernel_rfl) (fun _ _=>by kernel_rfl) qxr
def qrf:qK:=jV [(117,qv6),(162,qv7)] qre
theorem qfP:PkT qrf:=qu qci (qm qAw (qm qAx qO))
end
end Su
end
section
namespace Su
noncomputable section
open Go Go.Proofs Fly
set_option maxRecDepth 100000
def qrg:PrimD:=prim (d1 (cI .u64)) (d1 (cI .i64)) (fun a=>bLen a)
theorem qyz:OkT 64 qrg:=fnL jy qfP (by kernel_rfl) (fun _ _=>by kernel_rfl)
def qrh:qK:=jV [(64,qrg)] qrf
theorem qcj:PkT qrh:=qu qfP (qm qyz qO)
end
end Su
end
section
namespace Su
noncomputable section
open Go Go.Proofs Fly
set_option maxRecDepth 100000
def qri:PrimD:=prim (dc (cI .u64) (d1 (cI .i64))) (dc (cQ 1 1) (d1 (cI .i64))) (qgW)
theorem qyA:OkT 20 qri:=yT jy qcj (fun fu a=>qtP fu a.1 a.2) (by kernel_rfl) (fun _ _=>by kernel_rfl) qtS
def qrj:PrimD:=prim (d1 (cI .i64)) (d1 (cQ 1 1)) (Zs)
theorem qyB:OkT 107 qrj:=yl jy qcj (fun a=>qxs a) (by kernel_rfl) (fun _ _=>by kernel_rfl) qtT
def qrk:qK:=jV [(20,qri),(107,qrj)] qrh
theorem qfQ:PkT qrk:=qu qcj (qm qyA (qm qyB qO))
end
end Su
end
section
namespace Su
noncomputable section
open Go Go.Proofs Fly
set_option maxRecDepth 100000
def qlU:PrimD:=prim (dc cB (dc (cQ 1 1) (dc (cQ 1 1) (d1 (cI .u8))))) (dc (cI .u64) (d1 (cI .u8))) (yA)
theorem quS:OkT 50 qlU:=yl jy qfQ (fun a=>qlh a.1 a.2.1 a.2.2.1 a.2.2.2) (by kernel_rfl) (fun _ _=>by kernel_rfl) qpC
def qrl:qK:=jV [(50,qlU)] qrk
theorem qfR:PkT qrl:=qu qfQ (qm quS qO)
end
end Su
end
section
namespace Su
noncomputable section
open Go Go.Proofs Fly
set_option maxRecDepth 100000
def qiM:PrimD:=prim (d1 cS) (dc (cQ 1 1) (d1 (cI .i64))) (qei)
theorem qrm:OkT 19 qiM:=yT jy qfR (fun fu a=>qeh fu a) (by kernel_rfl) (fun _ _=>by kernel_rfl) qmP
def qrn:qK:=jV [(19,qiM)] qrl
theorem qfS:PkT qrn:=qu qfR (qm qrm qO)
end
end Su
end
section
namespace Su
noncomputable section
open Go Go.Proofs Fly
set_option maxRecDepth 100000
def qlV:PrimD:=prim (d1 (cQ 1 1)) (d1 cS) (QG)
theorem quT:OkT 54 qlV:=yT jy qfS (fun fu a=>qlk fu a) (by kernel_rfl) (fun _ _=>by kernel_rfl) qpM
def qhb:qK:=jV [(54,qlV)] qrn
theorem qfT:PkT qhb:=qu qfS (qm quT qO)
end
end Su
end
section
namespace Go.Proofs
open Go.Shelf
def Tryz.idxB_ren:Go.Shelf.Ren:=⟨fun | 137=>125 | 217=>170 | 266=>194 | n=>n,fun | 9=>9 | 5=>5 | 3=>3 | n=>n,fun | n=>n⟩
theorem Tryz.idxB:Go.Proofs.Lays.n137 Tryz.prog Tryz.idxB_ren:={
 mixed:=by kernel_rfl
 f137:=Tryz.func125.trans (congrArg some (by kernel_rfl))
 f217:=Tryz.func170.trans (congrArg some (by kernel_rfl))
 f266:=Tryz.func194.trans (congrArg some (by kernel_rfl))
 t3:=Tryz.underlying3
 a3:=Tryz.isAgg3
 z3:=Tryz.sizeOf3
 v3:=Tryz.zeroValue3
 t5:=Tryz.underlying5
 a5:=Tryz.isAgg5
 z5:=Tryz.sizeOf5
 v5:=Tryz.zeroValue5
 t9:=Tryz.underlying9
 a9:=Tryz.isAgg9
 z9:=Tryz.sizeOf9
 v9:=Tryz.zeroValue9 }
def Tryz.itoa_ren:Go.Shelf.Ren:=⟨fun | 171=>94 | 243=>145 | 246=>184 | 283=>205 | 284=>206 | 285=>207 | 286=>208 | 129=>122 | 317=>224 | 318=>225 | 319=>226 | 320=>227 | 337=>235 | 338=>236 | n=>n,fun | 3=>3 | 9=>9 | 2=>2 | 4=>4 | 171=>245 | 0=>0 | 53=>22 | 37=>129 | 5=>5 | 173=>247 | 212=>266 | 51=>105 | 20=>20 | 213=>267 | 46=>28 | 232=>282 | 233=>283 | n=>n,fun | 17=>4 | 18=>7 | 19=>8 | n=>n⟩
theorem Tryz.itoa:Go.Proofs.LaysM.n171 Tryz.prog Tryz.itoa_ren:={
 mixed:=by kernel_rfl
 f129:=Tryz.func122.trans (congrArg some (by kernel_rfl))
 f171:=Tryz.func94.trans (congrArg some (by kernel_rfl))
 f243:=Tryz.func145.trans (congrArg some (by kernel_rfl))
 f246:=Tryz.func184.trans (congrArg some (by kernel_rfl))
 f283:=Tryz.func205.trans (congrArg some (by kernel_rfl))
 f284:=Tryz.func206.trans (congrArg some (by kernel_rfl))
 f285:=Tryz.func207.trans (congrArg some (by kernel_rfl))
 f286:=Tryz.func208.trans (congrArg some (by kernel_rfl))
 f317:=Tryz.func224.trans (congrArg some (by kernel_rfl))
 f318:=Tryz.func225.trans (congrArg some (by kernel_rfl))
 f319:=Tryz.func226.trans (congrArg some (by kernel_rfl))
 f320:=Tryz.func227.trans (congrArg some (by kernel_rfl))
 f337:=Tryz.func235.trans (congrArg some (by kernel_rfl))
 f338:=Tryz.func236.trans (congrArg some (by kernel_rfl))
 t0:=Tryz.underlying0
 a0:=Tryz.isAgg0
 z0:=Tryz.sizeOf0
 v0:=Tryz.zeroValue0
 t2:=Tryz.underlying2
 a2:=Tryz.isAgg2
 z2:=Tryz.sizeOf2
 v2:=Tryz.zeroValue2
 t3:=Tryz.underlying3
 a3:=Tryz.isAgg3
 z3:=Tryz.sizeOf3
 v3:=Tryz.zeroValue3
 t4:=Tryz.underlying4
 a4:=Tryz.isAgg4
 z4:=Tryz.sizeOf4
 v4:=Tryz.zeroValue4
 t5:=Tryz.underlying5
 a5:=Tryz.isAgg5
 z5:=Tryz.sizeOf5
 v5:=Tryz.zeroValue5
 t9:=Tryz.underlying9
 a9:=Tryz.isAgg9
 z9:=Tryz.sizeOf9
 v9:=Tryz.zeroValue9
 t20:=Tryz.underlying20
 a20:=Tryz.isAgg20
 z20:=Tryz.sizeOf20
 v20:=Tryz.zeroValue20
 t37:=Tryz.underlying129
 a37:=Tryz.isAgg129
 z37:=Tryz.sizeOf129
 v37:=Tryz.zeroValue129
 t46:=Tryz.underlying28
 a46:=Tryz.isAgg28
 z46:=Tryz.sizeOf28
 v46:=Tryz.zeroValue28
 t51:=Tryz.underlying105
 a51:=Tryz.isAgg105
 z51:=Tryz.sizeOf105
 v51:=Tryz.zeroValue105
 t53:=Tryz.underlying22
 a53:=Tryz.isAgg22
 z53:=Tryz.sizeOf22
 v53:=Tryz.zeroValue22
 t171:=Tryz.underlying245
 a171:=Tryz.isAgg245
 z171:=Tryz.sizeOf245
 v171:=Tryz.zeroValue245
 t173:=Tryz.underlying247
 a173:=Tryz.isAgg247
 z173:=Tryz.sizeOf247
 v173:=Tryz.zeroValue247
 t212:=Tryz.underlying266
 a212:=Tryz.isAgg266
 z212:=Tryz.sizeOf266
 v212:=Tryz.zeroValue266
 t213:=Tryz.underlying267
 a213:=Tryz.isAgg267
 z213:=Tryz.sizeOf267
 t232:=Tryz.underlying282
 a232:=Tryz.isAgg282
 z232:=Tryz.sizeOf282
 v232:=Tryz.zeroValue282
 t233:=Tryz.underlying283
 a233:=Tryz.isAgg283
 z233:=Tryz.sizeOf283
 v233:=Tryz.zeroValue283
 g17:=by kernel_rfl
 g18:=by kernel_rfl
 g19:=by kernel_rfl
 i0:=by kernel_rfl
 i2:=by kernel_rfl
 i3:=by kernel_rfl
 i4:=by kernel_rfl
 i5:=by kernel_rfl
 i9:=by kernel_rfl
 i20:=by kernel_rfl
 i37:=by kernel_rfl
 i46:=by kernel_rfl
 i51:=by kernel_rfl
 i53:=by kernel_rfl
 i171:=by kernel_rfl
 i173:=by kernel_rfl
 i212:=by kernel_rfl
 i232:=by kernel_rfl
 i233:=by kernel_rfl
 m17:=by kernel_rfl
 m18:=by kernel_rfl
 m19:=by kernel_rfl }
end Go.Proofs
end
section
namespace Su
noncomputable section
open Go Go.Proofs Fly
theorem qlW(c:UInt8):∀l,Lib.indexByte l c=jb c l
 | []=>rfl
 | b::l=>by
  unfold Lib.indexByte jb;rw[qlW c l];cases b == c with
  | true=>rfl
  | false=>
   simp only[zm];by_cases h:jb c l = -1
   · simp[h]
   · simp[h]
def qro:PrimD:=prim (dc cS (d1 (cI .u8))) (d1 (cI .i64)) qpy
theorem qj5{V:qc}{w:World}(hs:Z3 V w):Holds ⟨keys [],w,V,fun _ _ _=>False⟩ V [] w :=
 ⟨Ext.refl _ _,hs,(fun p hp=>by cases hp),(fun p hp=>by cases hp),.nil,Sub.refl _,fun r h0 hr=>absurd h0 hr⟩
theorem qyC:OkT 125 qro:=by
 refine⟨by kernel_rfl,fun xs y h V vs _ hr=>?_,fun j hj=>nomatch hj⟩
 obtain⟨p,h1,h2⟩:=osm (show((dc cS (d1 (cI .u8))).dec xs).bind qpy=some y from h)
 have hr2:=(dc cS (d1 (cI .u8))).rep h1 hr
 have hg:=(dc cS (d1 (cI .u8))).rng hr2
 obtain⟨s,c⟩:=p;have:=soi h2;subst this
 cases hr2 with | cons k1 k2=>
 cases k2 with | cons k2 k3=>
 cases k3 with | nil=>
 cases k1 with | s k1=>
 cases k2 with | s k2=>
 intro w hs _ _ _;refine(Any.strings_IndexByte Tryz.idxB s c w).mono ?_
 rintro e w' ⟨rfl,rfl⟩
 refine⟨_,V,[],rfl,qj5 hs,[_],.cons (.s (v:=.int .i64 (jb (UInt8.ofNat c.toNat) (lb s))) ?_) .nil,?_⟩
 · have hl:s.size≤maxLen:=hg.1
   have:=ZT (UInt8.ofNat c.toNat) (lb s)
   have e:(lb s).length=s.size:=by unfold lb;rw[KS];rfl
   rw[yG]at hl;exact QW.2 ⟨by omega,by omega⟩
 · rw[qlW];rfl
theorem qrp:∀n,Lib.decDigits n=dg n:=by
 intro n;induction n using Nat.strongRecOn with
 | ind n ih=>
  unfold Lib.decDigits;by_cases h:n<10
  · rw[dif_pos h,YQ h]
  · rw[dif_neg h,Z9 (by omega),ih (n / 10) (by omega)]
theorem qyD(n:Int):Lib.itoa n=itT n:=by
 unfold Lib.itoa itT;rw[qrp,qrp];by_cases h:n<0
 · rw[zA h,zb h];rfl
 · rw[zw h,zk h];rfl
def qv8:PrimD:=prim (d1 (cI .i64)) (d1 cS) qfx
theorem qiN{V:qc}:∀ {l:List Nat} {vs:List Value},RepA V (l.map fun z=>T.s (.int .u64 ((z:Nat):Int))) vs→vs=l.map fun z=>Value.int .u64 ((z:Nat):Int)
 | [],_,.nil=>rfl
 | z::l,_,.cons h h'=>by
  cases h with | s h=>
  rw[KV,qiN h']
theorem qyE{V:qc}{w:World}(hg:GOK tb V)(hs:Z3 V w):Lib.TabIs Tryz.prog w "internal/strconv.uint64pow10" .u64 Lib.pow10Tab:=by
 obtain⟨h1,arr,e,f,h2,h3⟩:=hg.1 4 gT4 rfl
 unfold Lib.TabIs World.var?
 rw[show Tryz.prog.globalNamed "internal/strconv.uint64pow10"=some 4 by kernel_rfl,zh];show(match w.heap[4]? with | some (.cells cs _ _)=>some cs | _=>none)=_
 rw[hs _ _ h2];have hv:arr.toList=[1,10,100,1000,10000,100000,1000000,10000000,100000000,1000000000,10000000000,100000000000,1000000000000,10000000000000,100000000000000,1000000000000000,10000000000000000,100000000000000000,1000000000000000000,10000000000000000000].map fun z:Nat=>Value.int .u64 ((z:Nat):Int):=by
  cases h1 with
  | pt k1 k2 k3=>
   rename_i vs;have hvs:=qiN (l:=[1,10,100,1000,10000,100000,1000000,10000000,100000000,1000000000,10000000000,100000000000,1000000000000,10000000000000,100000000000000,1000000000000000,10000000000000000,100000000000000000,1000000000000000000,10000000000000000000]) k1
   rw[← hvs];have hl:vs.length=20:=by rw[hvs];rfl
   have hsz:arr.toList.length=20:=by rw[KS];exact h3
   refine List.ext_getElem? fun j=>?_
   by_cases hj:j<20
   · obtain⟨arr',e',f',q1,q2⟩:=k3 j vs[j] (zt (by omega))
     rw[h2]at q1;simp only[za,Obj.cells.injEq]at q1;obtain⟨rfl,_⟩:=q1;rw[zt (show j<vs.length by omega),← q2,zG];simp
   · rw[z7 (by omega),z7 (by omega)]
 have:arr=(Lib.pow10Tab.map fun z=>Value.int .u64 z).toArray:=by
  apply Array.toList_inj.1
  rw[hv];rfl
 rw[this]
theorem quU{V:qc}{w:World}(hs:Z3 V w)(k:Nat)(os:Array Obj):Holds ⟨keys [],w,V,fun _ _ _=>False⟩ V [] (Go.Sort.grow (w.drewN k) os):=by
 have hh:(Go.Sort.grow (w.drewN k) os).heap=w.heap++os:=rfl
 refine⟨⟨rfl,rfl,rfl,by rw[hh];simp,fun i hi _=>?_⟩,fun r o hr=>?_,(fun p hp=>by cases hp),(fun p hp=>by cases hp),.nil,Sub.refl _,fun r h0 hr=>absurd h0 hr⟩
 · rw[hh,Wc hi]
 · have:=hs r o hr
   rw[hh,Wc (Ka.1 this).1];exact this
theorem qAy:OkT 94 qv8:=by
 refine⟨by kernel_rfl,fun xs y h V vs hgk hr=>?_,fun j hj=>nomatch hj⟩
 obtain⟨n,h1,h2⟩:=osm (show((d1 (cI .i64)).dec xs).bind qfx=some y from h)
 have hr2:=(d1 (cI .i64)).rep h1 hr
 obtain⟨h3,h4⟩:=qh h2;have:=soi h4;subst this
 simp only[zn,zO]at h3;cases hr2 with | cons k1 k2=>
 cases k2 with | nil=>
 cases k1 with | s k1=>
 intro w hs _ _ _;refine(Any.strconv_Itoa Tryz.itoa n (by omega) (by omega) w (qyE hgk hs)).mono ?_
 rintro e w' ⟨rfl,k,os,rfl⟩
 refine⟨_,V,[],rfl,quU hs k os,[_],.cons (.s (v:=.string (bs (itT n))) ?_) .nil,?_⟩
 · refine zp ?_
   show(bs (itT n)).size≤maxLen
   have:=qgT h3.1 h3.2
   rw[qe,yG];omega
 · rw[qyD];rfl
end
end Su
end
section
namespace Su
noncomputable section
open Go Go.Proofs Fly
set_option maxRecDepth 100000
theorem qrq:(List.range 41).map (fun k=>qgp tb qhb (shN tb qhb 9 9) 9 102 ((dc (cK (bs [48])) (d1 (cI .i64))).enc ((),((k:Nat):Int))) (d1 cS).dec)=(List.range 41).map fun k=>some (bs (zs k)):=by kernel_rfl
def qrr:PrimD:=prim (dc (cK (bs [48])) (d1 (cI .i64))) (d1 cS) qej
theorem qyF:OkT 102 qrr:=qbc jy qfT (by kernel_rfl) fun a y hg h=>by
 obtain⟨u,n⟩:=a;obtain⟨h1,h2⟩:=qh h;have:=soi h2;subst this
 simp only[zn,zO]at h1;obtain⟨k,rfl⟩:=Kp h1.1;exact⟨9,9,9,List.map_inj_left.1 qrq k (Wv.2 (by omega))⟩
def qrs:qK:=jV [(125,qro),(94,qv8),(102,qrr)] qhb
theorem qck:PkT qrs:=qu qfT (qm qyC (qm qAy (qm qyF qO)))
end
end Su
end
section
namespace Su
noncomputable section
open Go Go.Proofs Fly
set_option maxRecDepth 100000
def qrt:PrimD:=prim (d1 (cI .i64)) (d1 (cQ 1 1)) (ju)
theorem qyG:OkT 51 qrt:=yl jy qck (fun a=>qxv a) (by kernel_rfl) (fun _ _=>by kernel_rfl) qtV
def qv9:PrimD:=prim (dc cS (d1 (cI .i64))) (dc cS (d1 (cI .i64))) (qbs)
theorem qAz:OkT 53 qv9:=yl jy qck (fun a=>dTr a.1 a.2) (by kernel_rfl) (fun _ _=>by kernel_rfl) qxw
def qru:qK:=jV [(51,qrt),(53,qv9)] qrs
theorem qcl:PkT qru:=qu qck (qm qyG (qm qAz qO))
end
end Su
end
section
namespace Su
noncomputable section
open Go Go.Proofs Fly
set_option maxRecDepth 100000
def qwa:PrimD:=prim (d1 (cI .u64)) (d1 (cA (dc (cQ 1 1) (d1 (cQ 1 1))))) (fun a=>dOf a)
theorem qAA:OkT 47 qwa:=fnL jy qcl (by kernel_rfl) (fun _ _=>by kernel_rfl)
def qlX:PrimD:=prim (dc (cA (dc (cQ 1 1) (d1 (cQ 1 1)))) (d1 (cI .i64))) (d1 (cA (dc (cQ 1 1) (d1 (cQ 1 1))))) (fun a=>qis a.1 a.2)
theorem quV:OkT 52 qlX:=fnL jy qcl (by kernel_rfl) (fun _ _=>by kernel_rfl)
def qrv:qK:=jV [(47,qwa),(52,qlX)] qru
theorem qfU:PkT qrv:=qu qcl (qm qAA (qm quV qO))
end
end Su
end
section
namespace Su
noncomputable section
open Go Go.Proofs Fly
set_option maxRecDepth 100000
def qrw:PrimD:=prim (d1 (cI .u64)) (dc cS (d1 (cI .i64))) (JI)
theorem qyH:OkT 13 qrw:=yT jy qfU (fun fu a=>qjN fu a) (by kernel_rfl) (fun _ _=>by kernel_rfl) qt6
def qrx:qK:=jV [(13,qrw)] qrv
theorem qna:PkT qrx:=qu qfU (qm qyH qO)
end
end Su
end
section
namespace Su
open Go Go.Proofs Fly
set_option maxRecDepth 100000
noncomputable def qry:qK:=jV [] qrx
theorem qfV:PkT qry:=qu qna qO
end Su
end
section
namespace Su
noncomputable section
open Go Go.Proofs Fly
set_option maxRecDepth 100000
def qlY:PrimD:=prim (dc cS (d1 (cI .i64))) (d1 cS) (Qk)
theorem quW:OkT 46 qlY:=yl jy qfV (fun a=>qlw a.1 a.2) (by kernel_rfl) (fun _ _=>by kernel_rfl) qpX
def qrz:qK:=jV [(46,qlY)] qry
theorem qfW:PkT qrz:=qu qfV (qm quW qO)
end
end Su
end
section
namespace Su
noncomputable section
open Go Go.Proofs Fly
set_option maxRecDepth 100000
def qiO:PrimD:=prim (d1 (cI .u64)) (d1 cS) (yW)
theorem qrA:OkT 12 qiO:=yl jy qfW (fun a=>qjO a) (by kernel_rfl) (fun _ _=>by kernel_rfl) qmY
def qrB:qK:=jV [(12,qiO)] qrz
theorem qnb:PkT qrB:=qu qfW (qm qrA qO)
end
end Su
end
section
namespace Su
noncomputable section
open Go Go.Proofs Fly
set_option maxRecDepth 100000
def qnc{α:Type}(n:Nat)(k:Nat→α):α:=Nat.rec (motive:=fun _=>α) (k 0) (fun m _=>k (m+1)) n
theorem quX{α:Type}(n:Nat)(k:Nat→α):qnc n k=k n:=by cases n <;> rfl
def qrC:qK:=jV [] qrB
theorem qfX:PkT qrC:=qu qnb qO
end
end Su
end
section
namespace Su
noncomputable section
open Go Go.Proofs Fly
set_option maxRecDepth 100000
def qrD:PrimD:=prim (d1 cS) (dc cS (dc (cI .i64) (d1 cB))) (qb7)
theorem qyI:OkT 59 qrD:=yT jy qfX (fun fu a=>QJ fu a) (by kernel_rfl) (fun _ _=>by kernel_rfl) qt7
def qrE:qK:=jV [(59,qrD)] qrC
theorem qfY:PkT qrE:=qu qfX (qm qyI qO)
end
end Su
end
section
namespace Su
noncomputable section
open Go Go.Proofs Fly
set_option maxRecDepth 100000
def qrF:PrimD:=prim (d1 cS) (dc (cI .u64) (d1 (cI .i64))) (qb8)
theorem qrG:OkT 17 qrF:=yl jy qfY (fun a=>qt8 a) (by kernel_rfl) (fun _ _=>by kernel_rfl) qua
def qrH:qK:=jV [(17,qrF)] qrE
theorem qnd:PkT qrH:=qu qfY (qm qrG qO)
end
end Su
end
